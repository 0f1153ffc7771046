/-
  Contracts, laws: ParA, ParB, IntE, BxK, IntF, IntG, IntH, SumA, SumB, RatA, RowA, RowB, NumA, NumB, NumC.
-/
import Derived.Test.YthfnenohhindpaaGreatDoorC19
import Derived.Test.YthfnenohhindpaaGreatDoorC20
import Derived.Lib.ConvBytes
import Derived.Deep.DeepCutAuto
set_option linter.all false
set_option maxHeartbeats 8000000
set_option maxRecDepth 100000
namespace Go.Proofs.YthfnenohhindpaaGreatDoor
open Go.RowKit Sos
theorem m5 {l:List UInt8} (h:Digs l):nl (aM l)<=l.length:=by
 refine bW (aU (qM h) ?_);exact Nat.pow_le_pow_left (by decide) _
theorem jR (t:ByteArray) (a b:Nat):(t.extract a b).data.toList=(t.data.toList.take b).drop a:=by
 rw[ByteArray.data_extract,Array.toList_extract,List.extract_eq_take_drop];rw[List.take_drop];by_cases h:a<=b
 ·rw[show a+(b-a)=b by omega]
 ·rw[List.drop_of_length_le (by simp;omega),List.drop_of_length_le (by simp;omega)]
theorem NJ (s:ByteArray) (w:World):∃b w1,(convert 9 177 (.string s)).run Tryz.prog w= .ok (.slice (some ⟨w.heap.size,0,none⟩) s.size b) w1∧Below w.heap.size w w1∧w1.heap.size=w.heap.size+1∧
  ∀j,j<s.size->w1.cell? ⟨w.heap.size,j,none⟩=some (.int .u8 ((s.data.toList.getD j 0).toNat:Int)):=
 ⟨_,_,Lib.run_convert_string_bytes w _ _ 5 s Tryz.underlying9 Tryz.underlying177 Tryz.underlying5,
  ⟨rfl,rfl,rfl,by rw[Lib.bytesWorld_size];omega,fun j a=>Lib.bytesWorld_at_old w _ s j a⟩,Lib.bytesWorld_size w _ s,fun j a=>Lib.bytesWorld_cell w _ s j a⟩
theorem NK {zs:List Int} (h:InR aA zs) (hv:aA^(zs.length-1)<=aF aA zs):iF zs:=by
 intro e;obtain⟨a,rfl⟩:∃a,zs=a++[0]:=by
  rcases List.eq_nil_or_concat zs with rfl|⟨a,b,rfl⟩
  ·simp at e
  ·rw[List.concat_eq_append,List.getLast?_append] at e;simp at e;subst e;exact⟨a,by rw[List.concat_eq_append]⟩
 rw[iP] at hv;have:=fZ aP h.left;simp at hv;omega
theorem NL {a b d:Nat} {zs:List Int} {c:Int} (j:1<=b) (f:InR aA zs) (e:zs.length=nl a) (k:0<=c) (l:c<aA) (hv:aF aA zs+c*aA^nl a=(a:Int)*b+d):
  (c=0->zs=dg (a*b+d))∧(c≠0->zs++[c]=dg (a*b+d)):=by
 refine⟨fun h=> ?_,fun h=> ?_⟩
 ·subst h;have i:aF aA zs=((a*b+d:Nat):Int):=by push_cast;omega
  refine sI ⟨f,?_⟩ i;by_cases g:a=0
  ·subst g;rw[dC] at e;have:zs=[]:=bM e;subst this;simp[iF]
  ·refine NK f ?_;rw[e,i,<-gK];have m:=vV g;have n:a*1<=a*b:=dL _ j;omega
 ·refine sI ⟨f.append (InR.cons k l InR.nil),?_⟩ ?_
  ·unfold iF;rw[List.getLast?_append];simpa using h
  ·rw[iP,sK,e];push_cast;rw[Int.mul_comm];exact hv
theorem NM (s:ByteArray) (w:World) (hd:Digs s.data.toList) (hl:s.size<=1099511627776):
  Calls Tryz.prog 231 #[.string s] w (gS w [] (aM s.data.toList)):=by
 go_enter Tryz.func231,Tryz.ntmps231;go_wp2_with fail;go_loopg [0,3] s.size (fun k p q wr=>∃(t:ByteArray) (h:List UInt8),p= .string t∧Hid (t.size=k)∧Hid (s.data.toList=h++t.data.toList)∧OwnN wr w.heap.size q (dg (aM h))∧Below w.heap.size w wr)
 case atStart=>exact⟨s,[],rfl,rfl,rfl,by rw[wU,qA];exact OwnN.nil _ _,aH _ _⟩
 case round=>
  obtain⟨t,h,rfl,U,r,D,ac⟩:=hrel;have aw:s.data.toList.length=s.size:=by simp
  have N:t.data.toList.length=t.size:=by simp
  have au:h.length+t.size=s.size:=by rw[<-aw,r.out,aY,N]
  have bi:Digs h:=by have:=hd;rw[r.out] at this;exact this.left
  have bj:Digs t.data.toList:=by have:=hd;rw[r.out] at this;exact this.right
  have hn:=m5 bi;have b4:h.length<=1099511627776:=by omega
  have b7:t.size<=1099511627776:=by omega
  have a9:=aB au;have F:=aB N;clear aw N au;by_cases h0:t.size=0
  ·have ht:t.data.toList=[]:=bM (by rw[F.out];exact h0);have o:=r.out;rw[ht,List.append_nil] at o;have hN:=D.natAt;have hf:From w [] u3:=by
    intro g hg N;have:=(D.lt g hg).1;omega
   have q0:¬(0:Int)<(t.size:Int):=by omega
   have bb:=aB o;clear o ht r U F a9;go_wp2_with fail;go_ret;exact⟨_,rfl,by rw[bb.out];exact hN,hf,ac⟩
  ·obtain⟨z,b9,ca,cb,cc⟩:∃z:Nat,1<=z∧z<=19∧z<=t.size∧((t.size:Int)-1)%19+1=(z:Int):=⟨(t.size-1)%19+1,by omega,by omega,by omega,by omega⟩;obtain⟨bc,w1,J,an,a0,I⟩:=NJ (t.extract 0 z) wr;have ag:(t.extract 0 z).size=z:=by rw[ByteArray.size_extract];omega
   have af:(t.extract 0 z).data.toList=t.data.toList.take z:=by rw[jR,List.drop_zero]
   have aq:(t.extract z t.size).data.toList=t.data.toList.drop z:=by rw[jR,cA (by rw[F.out];omega)]
   have ar:(t.extract z t.size).size=t.size-z:=by rw[ByteArray.size_extract];omega
   rw[ag,af] at I;rw[ag] at J;have bt:=aB af;have a8:=aB aq;have aj:=aB ar;have ae:Digs (t.data.toList.take z):=bj.take z;have ah:(t.data.toList.take z).length=z:=by rw[aZ,F.out];omega
   obtain⟨a,ak⟩:∃a,Hid (t.data.toList.take z=a):=⟨_,rfl⟩;rw[ak.out] at I ae ah;have S:=aB ah;have bu:=aB a0;have a7:=aB I;have ay:=D.below an;obtain⟨A,c,az⟩:=D.slice;rw[aJ] at az;subst az;clear af aq ar ag ah I D a0;have b8:decide (0<t.size)=true:=by simp;omega
   go_wp2_with (simp only[J]);go_loopg [5,6,25] z (fun k p q i O=>∃j:Nat,Hid (j+k=z)∧i= .int .i64 j∧p= .int .u64 (aM (a.take j):Nat)∧q= .int .u64 ((10^j:Nat):Int)∧O=w1)
   case atStart=>exact⟨0,by unfold Hid;omega,rfl,by simp[wU],by simp,rfl⟩
   case round=>
    obtain⟨j,E,rfl,rfl,rfl,rfl⟩:=hrel;have a5:=qM (ae.take j);have av:(a.take j).length<=j:=List.length_take_le _ _;have bs:aM (a.take j)<10^j:=aU a5 (cE (by decide) av);clear a5 av;cases gk with
    |succ k=>
     have C:j<z:=by have:=E.out;omega
     have g:=a7.out j C;have M:j<a.length:=by rw[S.out];exact C
     have bh:48<=(a.getD j 0).toNat∧(a.getD j 0).toNat<=57:=ae _ (by rw[dF,aL M];exact List.getElem_mem M);have a1:aM (a.take (j+1))=10*aM (a.take j)+((a.getD j 0).toNat-48):=by
      rw[List.take_succ_eq_append_getElem M,m6,dF,aL M];rfl
     have hP:10^j<=1000000000000000000:=by
      have:10^j<=10^18:=cE (by decide) (by omega);exact this
     have al:10^(j+1)=10^j*10:=cU ..;have T:=aB a1;have ba:=aB al;clear a1 al;generalize ai:aM (a.take j)=v at *;generalize ab:10^j=P at *;generalize ao:(a.getD j 0).toNat=ch at *;have R:=aB ao;clear ai ab ao J;obtain⟨b0,b1⟩:=bh;go_wp2_with fail;go_roundg k
     case measure=>omega
     case rel=>exact⟨j+1,by have:=E.out;unfold Hid;omega,by go_num,by rw[T.out];go_num,by rw[ba.out];go_num,rfl⟩
    |zero=>
     have C:j=z:=by have:=E.out;omega
     subst C;have ax:a.take j=a:=cA (by rw[S.out];exact aE);rw[ax] at bs⊢;have hP:10^j<18446744073709551616:=by
      have:10^j<=10^19:=cE (by decide) (by omega);omega
     have bg:1<=10^j:=Nat.pow_pos (by decide);have a4:aM (h++a)=aM h*10^j+aM a:=by rw[mT,S.out]
     have V:=aB a4;clear a4 ax J;generalize ai:aM a=v at *;generalize ab:10^j=P at *;generalize bp:aM h=d at *;clear ai ab bp E;go_wp2_with fail
     go_loopg [9,44] (nl d) (fun k p i O=>∃(m:Nat) (l:List Int) (f:Int),Hid (m+k=nl d)∧i= .int .i64 m∧p= .int .u64 f∧(0<=f∧f<aA)∧Hid (l.length=nl d)∧InR aA l∧Hid (∀j,m<=j->l.getD j 0=(dg d).getD j 0)∧
      Hid (aF aA (l.take m)+f*aA^m=aF aA ((dg d).take m)*P+v)∧OwnN O w.heap.size (.slice A (nl d) c) l∧Below w.heap.size w O)
     case atStart=>
      refine⟨0,dg d,v,by unfold Hid;omega,rfl,rfl,⟨by omega,?_⟩,aJ d,bV d,fun _ _=>rfl,by simp[Hid],ay,aC ac an⟩;unfold aA;omega
     case round=>
      obtain⟨m,l,f,G,rfl,rfl,K,n,hz,Y,W,y,B⟩:=hrel;clear ay;cases gk with
      |succ k=>
       have u:m<nl d:=by have:=G.out;omega
       have HO:=aB y;obtain⟨g,rfl,bm,b5,b2,bq,ap⟩:=y.parts (by rw[n.out];omega);have g1:=ap m (by rw[n.out];exact u);rw[aS,Y.out m aE] at g1;have f1:=bq.soft.free m;have bx:=(bV d).getD aP m;have a3:=gY aA (dg d) m (by rw[aJ];exact u);generalize a6:(dg d).getD m 0=x at *;have bP:0<=(P:Int)∧(P:Int)<aA:=⟨by omega,by unfold aA;omega⟩;obtain⟨L,H,o⟩:=gE (x*P+f);have mb:=kJ bx bP K (z:=0) (by decide);have bH:=o.hi_bd (by omega) (m:=aA) (by omega);have bL:=o.2;have a2:aF aA ((l.set m L).take (m+1))+H*aA^(m+1)=aF aA ((dg d).take (m+1))*P+v:=by
        rw[qI (by rw[n.out];exact u),a3,Int.pow_succ];have e1:=W.out;have e2:=o.1;generalize aF aA (l.take m)=Z at *;generalize aF aA ((dg d).take m)=X at *;generalize aA^m=Q at *;generalize aA=b at *;have e3:L=x*P+f-b*H:=by omega
        rw[e3];grind
       have bf:=aB o;have T:=aB a2;have bv:=aB a6;clear o a2 a6 a3 mb ap y;go_wp2_with fail;refine(lW x P f L H bx bP K bf.out _).mono ?_;rintro e1 w' ⟨rfl,rfl⟩;go_wp2_with fail;go_roundg k
       case measure=>omega
       case rel=>
        refine⟨m+1,l.set m L,H,by have:=G.out;unfold Hid;omega,by go_num,rfl,bH,by unfold Hid;rw[List.length_set];exact n.out,hz.set bL.1 bL.2 m,?_,T,HO.out.set (by rw[n.out];exact u) L,B.setCell (by simpa using bm) _⟩;intro j C;rw[kI _ _ _ _ (by omega)];exact Y.out j (by omega)
      |zero=>
       have u:m=nl d:=by have:=G.out;omega
       subst u;have hv:=W.out;rw[cA (by rw[n.out];exact aE),cA (by rw[aJ];exact aE),cB] at hv;have R:=aB (NL bg hz n.out K.1 K.2 hv);have b6:Hid (aM (h++a)=d*P+v):=V;have am:Hid (s.data.toList=(h++a)++(t.extract j t.size).data.toList):=by
        unfold Hid;rw[a8.out,List.append_assoc,<-ak.out,List.take_append_drop];exact r.out
       clear hv W Y G hz;by_cases ad:f=0
       ·subst ad;have e:=R.out.1 rfl;rw[<-V.out] at e;subst e;go_wp2_with fail;go_roundg (t.size-j)
        case measure=>have:=U.out;omega
        case rel=>exact⟨_,h++a,rfl,aj,am,y,B⟩
       ·have e:=R.out.2 ad;rw[<-V.out] at e;have b3:(f != 0)=true:=by simpa using ad
        have HE:=aB e;clear e;have br:Src (wr.alloc (.cells #[.int .u64 f] 181)) (some ⟨wr.heap.size,0,none⟩) [Value.int .u64 f]:=by
         refine .inr ⟨_,_,rfl,fun i v hv=> ?_⟩;match i,hv with
         |0,hv=>simp at hv;subst hv;simp[go_sem]
        have bn:wr.ownsRow w.heap.size 181 1 (.slice A (nl d) c) (nl d) (l.map (Value.int .u64)):=by
         have:=y;unfold OwnN at this;rw[n.out] at this;exact this
        have bz:=B.size;go_wp2_with (at_builtin;refine fE rfl rfl 181 _ 1 8 Tryz.underlying57 fO rfl (by decide) w.heap.size (.slice A (nl d) c) (nl d) _ rfl (bn.alloc _) [Value.int .u64 f] rfl (by simp) br (by simp[Value.oneCell']) (by omega) (by omega) (by simp;omega) ?_;intro q1 w2 bo bk bw);go_wp2_with fail;go_roundg (t.size-j)
        case measure=>have:=U.out;omega
        case rel=>
         refine⟨_,h++a,rfl,aj,am,?_,(B.alloc B.size _).grown bk (by simp;omega) (fun g hg=>(y.lt g hg).1)⟩;rw[<-HE.out];unfold OwnN;rw[List.map_append,aY,n.out];exact bo
def wQ (w:World) (n:Nat) (e:Ending) (w':World):Prop:=∃v,e= .returned v∧NatAt w' v n∧Below w.heap.size w w'
def PowAt (w:World) (v:Value) (k:Nat):Prop:=∃A c us,v= .slice A k c∧k<=c∧us.length=k∧(k=0∨∃b off,A=some ⟨b,off,none⟩∧b<w.heap.size∧VC w b off us)∧∀i u,us[i]? =some u->NatAt w u (10^(19*2^i))
theorem PowAt.below {w w':World} {v:Value} {k:Nat} (h:PowAt w v k) (a:Below w.heap.size w w'):PowAt w' v k:=by
 obtain⟨A,c,us,hv,f,j,e,l⟩:=h;refine⟨A,c,us,hv,f,j,?_,fun i u h=>(l i u h).below a⟩;rcases e with h|⟨b,m,rfl,d,g⟩
 ·exact .inl h
 ·exact .inr ⟨b,m,rfl,aU d a.size,g.below a d⟩
theorem PowAt.cut {w:World} {A:Option Addr} {c k:Nat} (h:PowAt w (.slice A k c) k) {j:Nat} (o:j<=k):PowAt w (.slice A j c) j:=by
 obtain⟨l,m,us,hv,n,p,a,f⟩:=h;simp only[Value.slice.injEq] at hv;obtain⟨rfl, -,rfl⟩:=hv;refine⟨A,c,us.take j,rfl,by omega,by rw[aZ];omega,?_,fun i u h=>f i u (by rw[List.getElem?_take] at h;split at h;exact h;cases h)⟩;rcases a with h|⟨b,g,rfl,d,e⟩
 ·exact .inl (by omega)
 ·exact .inr ⟨b,g,rfl,d,e.take j⟩
theorem D8 (S:Nat):nl (10^S)<=S+1:=by
 refine bW ?_;rw[cU];have a:10^S<=BN^S:=Nat.pow_le_pow_left (by decide) _;have b:0<BN^S:=Nat.pow_pos (by decide);have c:BN^S*2<=BN^S*BN:=dL _ l8;omega
theorem wR (j:Nat) (a:j<=40):∃S:Nat,(19:Int)*2^j=(S:Int)∧Hid (S=19*2^j)∧S<=20890720927744∧19<=S:=by
 have b:2^j<=2^40:=cE (by decide) a;have c:0<2^j:=Nat.pow_pos (by decide);refine⟨19*2^j,by push_cast;rfl,rfl,?_,by omega⟩;have d:(2:Nat)^40=1099511627776:=by decide
 omega
def wS (N:Nat):Prop:=∀(k:Nat) (s:ByteArray) (v:Value) (w:World),k<N->k<=40->Digs s.data.toList->s.size<=1099511627776->PowAt w v k->Calls Tryz.prog 213 #[.string s,v] w (wQ w (aM s.data.toList))
theorem NF (N:Nat) (Q:wS N):wS (N+1):=by
 intro k s v w hN aw m hl K;have B:=NM s w m hl;have C:=aB K;obtain⟨A,c,us,rfl,hc,af,D,L⟩:=K;go_enter Tryz.func213,Tryz.ntmps213;go_wp2_with fail;go_loop [5] (fun i=>∃q:Int, -1<=q∧q<k∧i= .int .i64 q) (fun i=>(intOf i+1).toNat)
 case atStart=>exact⟨(k:Int)-1,by omega,by omega,rfl⟩
 case round=>
  obtain⟨q,a3,ah,rfl⟩:=hrel;by_cases ag:0<=q
  ·obtain⟨j,rfl⟩:=Int.eq_ofNat_of_zero_le ag;obtain⟨S,hS,U,an,ao⟩:=wR j (by omega);by_cases aq:s.size<=S
   ·have ae:(s.size:Int)<=S:=by omega
    go_wp2_with fail;go_round
    case rel=>exact⟨(j:Int)-1,by omega,by omega,rfl⟩
    case measure=>simp[intOf]
   ·have ae:¬(s.size:Int)<=S:=by omega
    by_cases am:s.size<=570
    ·go_wp2_with fail;refine B.mono ?_;rintro e d ⟨R,rfl,h,ac,a⟩;go_wp2;go_ret;exact⟨_,rfl,h,a⟩
    ·obtain⟨b,l,rfl,f,P⟩:=D.resolve_left (by omega);obtain⟨u,n⟩:∃u,us[j]? =some u:=⟨_,aL (by omega)⟩;have g:=P j u n;have y:=L j u n;rw[<-U.out] at y;obtain⟨z,hz,a4,W⟩:∃z:Nat,z<=s.size∧(s.size:Int)-S=(z:Int)∧Hid (z+S=s.size):=⟨s.size-S,by omega,by omega,by unfold Hid;omega⟩;have I:(s.extract 0 z).data.toList=s.data.toList.take z:=by rw[jR,List.drop_zero]
     have J:(s.extract z s.size).data.toList=s.data.toList.drop z:=by rw[jR,cA (by simp)]
     have ab:(s.extract 0 z).size<=1099511627776:=by rw[ByteArray.size_extract];omega
     have Z:(s.extract z s.size).size<=1099511627776:=by rw[ByteArray.size_extract];omega
     have o:=aB I;have r:=aB J;have O:aM s.data.toList=aM (s.data.toList.take z)*10^S+aM (s.data.toList.drop z):=by
      conv=>lhs;rw[<-List.take_append_drop z s.data.toList,mT]
      rw[List.length_drop];have:s.data.toList.length=s.size:=by simp
      rw[this,show s.size-z=S by have:=W.out;omega]
     have V:=aB O;have az:=m5 (m.take z);have a0:=m5 (m.drop z);have ax:(s.data.toList.take z).length<=z:=List.length_take_le _ _;have ay:(s.data.toList.drop z).length<=s.size:=by rw[List.length_drop];simp
     have a2:=D8 S;have al:=aB n;have hw:w.heap.size<=w.heap.size:=aE;clear I J O n P L af D B;have ar:(0:Int)<=(j:Int):=by omega
     have au:(j:Int)<(k:Int):=ah;have av:j<=c:=by omega
     have H:=fun d (f:Below w.heap.size w d)=>Q j (s.extract 0 z) (.slice (some ⟨b,l,none⟩) j c) d (by omega) (by omega) (by rw[o.out];exact m.take z) ab ((C.out.below f).cut (by omega));have Y:=fun d (f:Below w.heap.size w d)=>Q j (s.extract z s.size) (.slice (some ⟨b,l,none⟩) j c) d (by omega) (by omega) (by rw[r.out];exact m.drop z) Z ((C.out.below f).cut (by omega));go_wp2_with fail
     go_region_held3 (fun w'=>w'.cell? ⟨b,l+j,none⟩=some u) (first|go_keep|(exact(a.cell (p:=⟨b,l+j,none⟩) f).trans g)|(exact(x.cell (p:=⟨b,l+j,none⟩) (aU f a.size)).trans ((a.cell (p:=⟨b,l+j,none⟩) f).trans g))) (first
      |(go_at_call 213;(with_reducible refine(H _ ((aH _ _).drew)).mono ?_);rintro e1 d ⟨R,rfl,h,a⟩)
      |(go_at_call 168;(with_reducible refine(nV _ _ _ _ _ h ((y.drew).below a) (by rw[o.out];unfold aI;omega)).mono ?_);rintro e2 T ⟨v2,rfl,M,ad,x⟩))
     have E:Below w.heap.size w d:=((aH w.heap.size w).drew).trans a;have t:Below w.heap.size w T:=aC E x;rw[o.out] at M;have a1:=dJ (aM (s.data.toList.take z)) (10^S);clear h ad a x g y H;have ai:NatAt T.drew v2 (aM (s.data.toList.take z)*10^S):=M;go_wp2_with fail
     go_region_held3 (fun _=>True) (trivial) (first
      |(go_at_call 213;(with_reducible refine(Y _ (t.drew)).mono ?_);rintro e3 w3 ⟨v3,rfl,aj,G⟩)
      |(go_at_call 169;(with_reducible refine(oU _ _ _ _ _ (ai.below G) aj (by omega) (by rw[r.out];omega)).mono ?_);rintro e4 w4 ⟨v4,rfl,ak,ap,X⟩))
     go_wp2;go_ret;have F:Below w.heap.size w w3:=(t.drew).trans (G.mono t.size);exact⟨_,rfl,by rw[V.out,<-r.out];exact ak,aC F X⟩
  ·obtain rfl:q= -1:=by omega
   go_wp2_with fail;refine B.mono ?_;rintro e d ⟨R,rfl,h,ac,a⟩;go_wp2;go_ret;exact⟨_,rfl,h,a⟩
theorem NG (N:Nat):wS N:=by
 induction N with
 |zero=>intro k s v w h;omega
 |succ N a=>exact NF N a
theorem DB (k:Nat) (s:ByteArray) (v:Value) (w:World) (b:k<=40) (a:Digs s.data.toList) (c:s.size<=1099511627776) (d:PowAt w v k):
  Calls Tryz.prog 213 #[.string s,v] w (wQ w (aM s.data.toList)):=NG (k+1) k s v w (Nat.lt_succ_self _) b a c d
def OwnP (w:World) (B:Nat) (v:Value) (us:List Value):Prop:=w.ownsRow B 57 1 v us.length us∧∀i u,us[i]? =some u->NatAt w u (10^(19*2^i))∧∀g,v.ownBlock=some g->u.ownBlock≠some g
theorem wT:(Tryz.prog.info? 57).map (fun i=>(i.zero,i.size,i.bytes))=some (some (.slice none 0 0),1,24):=by kernel_rfl
theorem OwnP.pow {w:World} {B:Nat} {v:Value} {us:List Value} (h:OwnP w B v us):PowAt w v us.length:=by
 obtain⟨⟨_,j⟩,b⟩:=h;rcases j with ⟨rfl,e⟩|⟨g,d,f,rfl,l,c,hn,m,n,k⟩
 ·exact⟨none,0,us,by rw[e],by omega,rfl,.inl e,fun i u a=>(b i u a).1⟩
 ·refine⟨_,d,us,rfl,hn,rfl,.inr ⟨g,0,rfl,(Array.getElem?_eq_some_iff.1 c).1,?_⟩,fun i u a=>(b i u a).1⟩;intro i u a;rw[cell_of_row w g (0+i) f _ (0,0) c,aS,<-Array.getElem?_toList];rw[<-k,List.getElem?_take] at a;split at a
  ·exact a
  ·cases a
theorem OwnP.push {w w':World} {B:Nat} {v b u:Value} {us:List Value} {o:Obj} (h:OwnP w B v us) (r:NatAt w u (10^(19*2^us.length))) (hv:∀g,v.ownBlock=some g->u.ownBlock≠some g)
  (q:w'.ownsRow B 57 1 b (us.length+1) (us++[u])) (m:(w.alloc o).grownBy w' v.ownBlock) (l:b.ownBlock=v.ownBlock∨b.ownBlock=some (w.alloc o).heap.size):OwnP w' B b (us++[u]):=by
 have j:∀x n,NatAt w x n->(∀g,v.ownBlock=some g->x.ownBlock≠some g)->NatAt w' x n∧∀g,b.ownBlock=some g->x.ownBlock≠some g:=by
  intro x n a f;refine⟨(a.below ((aH _ _).alloc aE _)).grown m f,fun g e d=> ?_⟩;rcases l with h|h
  ·exact f g (by rw[<-h];exact e) d
  ·rw[h] at e;injection e with e;have:=a.block d;simp at e;omega
 refine⟨by rw[aY];exact q,fun i x a=> ?_⟩;rcases Nat.lt_or_ge i us.length with c|c
 ·rw[f8 c] at a;exact j x _ (h.2 i x a).1 (h.2 i x a).2
 ·rw[dS c] at a;have p:i=us.length:=by
   rcases Nat.lt_or_ge i (us.length+1) with k|k
   ·omega
   ·rw[eF (by simp;omega)] at a;cases a
  subst p;simp at a;subst a;exact j u _ r hv
theorem OwnP.nil (w:World) (B:Nat):OwnP w B (.slice none 0 0) []:=⟨World.ownsRow_nil w B _ _,fun i u h=>by cases h⟩
theorem OwnP.belowE {w w':World} {B:Nat} {v:Value} {us:List Value} (h:OwnP w B v us) (a:Below w.heap.size w w'):OwnP w' B v us:=by
 refine⟨World.ownsRow.kept h.1 (oQ a none) ?_,fun i u b=>⟨(h.2 i u b).1.below a,(h.2 i u b).2⟩⟩;cases v.ownBlock with
 |none=>exact .inl rfl
 |some g=>exact .inr (by simp)
theorem NatAt.oneCell {w:World} {v:Value} {n:Nat} (h:NatAt w v n):∀u∈[v],u.oneCell'=true:=by
 obtain⟨A,c,rfl,_⟩:=h;intro u a;rw[List.mem_singleton] at a;subst a;rfl
theorem NH (s:ByteArray) (w:World) (E:Digs s.data.toList) (F:s.size<=1099511627776):
  Calls Tryz.prog 189 #[.string s] w (wQ w (aM s.data.toList)):=by
 by_cases am:570<s.size
 ·have V:(570:Int)<(s.size:Int):=by omega
  have H:NatAt (w.alloc (.cells #[.int .u64 10000000000000000000] 181)) (.slice (some ⟨w.heap.size,0,none⟩) 1 1) (10^(19*2^([]:List Value).length)):=sY w 10000000000000000000 (by decide) (by decide) 181;go_enter Tryz.func189,Tryz.ntmps189;go_wp2_with (at_builtin;(refine fE rfl rfl 57 _ 1 24 Tryz.underlying231 wT rfl (by decide) w.heap.size (.slice none 0 0) 0 [] rfl (World.ownsRow_nil _ _ _ _) [Value.slice (some ⟨w.heap.size,0,none⟩) 1 1] rfl (by simp) (BO _ _ _ _ (by simp)) (by simp[Value.oneCell']) (by omega) (by omega) (by simp;omega) ?_);intro q1 P r a o);have C:=OwnP.push (OwnP.nil _ w.heap.size) H (by intro g e;cases e) (by simpa using r) a o;have p:Below w.heap.size w P:=(((aH _ _).alloc aE _).alloc (by simp) _).grown a (by simp;omega) (by intro k y;cases y);clear r a o H;go_wp2_with fail;go_loopg [3] 39 (fun k q wr=>∃us,Hid (us.length+k=40)∧1<=us.length∧Hid (19*2^(us.length-1)<s.size)∧OwnP wr w.heap.size q us∧Below w.heap.size w wr)
  case atStart=>exact⟨[Value.slice (some ⟨w.heap.size,0,none⟩) 1 1],rfl,by simp,by unfold Hid;simp;omega,C,p⟩
  case round=>
   obtain⟨us,R,v,t,d,j⟩:=hrel;clear C p;have au:us.length<=37:=by
    rcases Nat.lt_or_ge 37 us.length with h|h
    ·exfalso;have h2:2^37<=2^(us.length-1):=cE (by decide) (by omega);have h3:=t.out;have h4:(2:Nat)^37=137438953472:=by decide
     omega
    ·exact h
   obtain⟨S,hS,U,an,ao⟩:=wR us.length (by omega);have z:=aB d;have L:=d.pow;rcases d.1.2 with ⟨_,e⟩|⟨g,A,B,rfl,hb,x,hn,G,hs,M⟩
   ·omega
   by_cases ae:S<s.size
   ·have af:(S:Int)<s.size:=by omega
    obtain⟨A',c',a0,O,aq,ad,W,aj⟩:=L;simp only[Value.slice.injEq] at O;obtain⟨rfl, -,rfl⟩:=O;obtain⟨u,N⟩:∃u,us[us.length-1]? =some u:=⟨_,aL (by omega)⟩;have gc:wr.cell? ⟨g,us.length-1,none⟩=some u:=by
     rw[cell_of_row wr g _ B _ (0,0) x,<-Array.getElem?_toList];have v:(B.toList.take (us.length*1))[us.length-1]? =us[us.length-1]? :=by rw[M]
     rw[List.getElem?_take,if_pos (by omega)] at v;rw[v];exact N
    obtain⟨J,I⟩:=z.out.2 _ _ N;have aw:=D8 (19*2^(us.length-1));have ai:=t.out;have ac:g<wr.heap.size:=(Array.getElem?_eq_some_iff.1 x).1;have K:10^(19*2^(us.length-1))*10^(19*2^(us.length-1))=10^(19*2^us.length):=by
     rw[<-Nat.pow_add];congr 1;obtain⟨m,G⟩:∃m,us.length=m+1:=⟨us.length-1,by omega⟩;rw[G,Nat.add_sub_cancel,cU];omega
    have T:=aB K;clear ad W aj M hs x d K ai;generalize 10^(19*2^(us.length-1))=X at *;have ap:nl X<=1099511627777:=by have:=t.out;omega
    go_wp2_with fail;refine(nV X X _ _ _ J J (by unfold aI;omega)).mono ?_;rintro e Q ⟨v2,rfl,l,ab,f⟩;obtain⟨b,c,rfl,ar,ax,av⟩:=id l;have al:NatAt Q (Value.slice b (nl (X*X)) c) (10^(19*2^us.length)):=by rw[<-T.out];exact l
    have ag:∀n,(Value.slice (some ⟨g,0,none⟩) us.length A).ownBlock=some n->(Value.slice b (nl (X*X)) c).ownBlock≠some n:=by
     intro n e;have:g=n:=by simpa [Value.ownBlock] using e
     subst this;exact ab.ne2 ac (I _ rfl) (I _ rfl)
    have D:=z.out.belowE f;have ah:=l.oneCell;have ay:=j.size;have az:=f.size;go_wp2_with (at_builtin;(refine fE rfl rfl 57 _ 1 24 Tryz.underlying231 wT rfl (by decide) w.heap.size (.slice (some ⟨g,0,none⟩) us.length A) us.length us rfl (D.1.alloc _) [(Value.slice b (nl (X*X)) c)] rfl (by simp) (j0 _ _ _) ah (by omega) (by omega) (by simp;omega) ?_);intro q1 w3 r a o);have Y:=OwnP.push D al ag r a o
    have Z:Below w.heap.size w w3:=((aC j f).alloc (by omega) _).grown a (by simp;omega) (fun k y=>by
     have:g=k:=by simpa [Value.ownBlock] using y
     omega)
    go_wp2_with fail;go_roundg (40-(us++[(Value.slice b (nl (X*X)) c)]).length)
    case measure=>have:=R.out;simp;omega
    case rel=>
     refine⟨us++[(Value.slice b (nl (X*X)) c)],by unfold Hid;simp;omega,by simp,?_,Y,Z⟩;unfold Hid;rw[aY,List.length_singleton,Nat.add_sub_cancel,<-U.out];exact ae
   ·have af:¬(S:Int)<s.size:=by omega
    clear d;go_wp2_with fail;refine(DB us.length s _ _ (by omega) E F L).mono ?_;rintro e Q ⟨v2,rfl,l,f⟩;go_wp2;go_ret;exact⟨_,rfl,l,aC j f⟩
 ·have V:¬(570:Int)<(s.size:Int):=by omega
  have hp:PowAt w (.slice none 0 0) 0:=⟨none,0,[],rfl,aE,rfl,.inl rfl,fun i u h=>by cases h⟩;go_enter Tryz.func189,Tryz.ntmps189;go_wp2_with fail;refine(DB 0 s _ _ (by omega) E F hp).mono ?_;rintro e P ⟨v1,rfl,ak,p⟩;go_wp2;go_ret;exact⟨_,rfl,ak,p⟩
def Bx (w:World) (b:Nat) (cs:List Value) (t:TypeId):Prop:=w.heap[b]? =some (.cells cs.toArray t (0,0))
section
variable {w w':World} {b:Nat} {cs:List Value} {t:TypeId}
theorem Bx.new (w:World) (cs:List Value) (t:TypeId):Bx (w.alloc (.cells cs.toArray t)) w.heap.size cs t:=by show(w.heap.push _)[w.heap.size]? =_;simp
theorem Bx.newAt (w:World) (cs:List Value) (t:TypeId) (g:Nat) (a:w.heap.size=g):Bx (w.alloc (.cells cs.toArray t)) g cs t:=by subst a;exact Bx.new w cs t
theorem Bx.lt (h:Bx w b cs t):b<w.heap.size:=(Array.getElem?_eq_some_iff.1 h).1
theorem Bx.cell (h:Bx w b cs t) (i:Nat) {v:Value} (hv:cs[i]? =some v):w.cell? ⟨b,i,none⟩=some v:=by
 unfold Bx at h;simp[World.cell?,h,hv]
theorem Bx.free (h:Bx w b cs t) (j:Nat):w.frozen? ⟨b,j,none⟩=false:=frozen_of_row w b j _ t h
theorem Bx.below (h:Bx w b cs t) (a:Below w.heap.size w w'):Bx w' b cs t:=(a.block b h.lt).trans h
theorem Bx.belowB {B:Nat} (h:Bx w b cs t) (a:Below B w w') (c:b<B):Bx w' b cs t:=(a.block b c).trans h
theorem Bx.alloc (h:Bx w b cs t) (o:Obj):Bx (w.alloc o) b cs t:=(Below.heap_alloc w o b h.lt).trans h
theorem Bx.drew (h:Bx w b cs t):Bx w.drew b cs t:=h
theorem Bx.far (h:Bx w b cs t) {g:Nat} (o:Nat) (v:Value) (a:g≠b):Bx (w.setCell ⟨g,o,none⟩ v) b cs t:=(Below.heap_setCell w ⟨g,o,none⟩ v b (fun e=>a e.symm)).trans h
theorem Bx.set (h:Bx w b cs t) (i:Nat) (v:Value):Bx (w.setCell ⟨b,i,none⟩ v) b (cs.set i v) t:=by
 unfold Bx at h⊢;simp[World.setCell,Array.getElem?_modify,h]
end
def NoInt (c:Value):Prop:=∀k x,c≠ .int k x
theorem NoInt.bool (s:Bool):NoInt (.bool s):=fun _ _ h=>by cases h
theorem NoInt.slice (A:Option Addr) (n c:Nat):NoInt (.slice A n c):=fun _ _ h=>by cases h
theorem NoInt.string (s:ByteArray):NoInt (.string s):=fun _ _ h=>by cases h
theorem NatAt.put {w:World} {u:Value} {n:Nat} (h:NatAt w u n) {p:Addr} {c:Value} (a:w.cell? p=some c) (g:NoInt c) (v:Value):NatAt (w.setCell p v) u n:=by
 obtain⟨A,f,hv,j,d,o⟩:=h;refine⟨A,f,hv,j,?_,o.mono (by simp)⟩;rcases d with d|⟨b,q,rfl,m,k⟩
 ·exact .inl d
 ·refine .inr ⟨b,q,rfl,by simpa using m,fun i l=> ?_⟩;have e:=k i l;rw[World.cell?_setCell_other _ _ _ _ ?_,e];rintro rfl;rw[e] at a;injection a with a;exact g _ _ a.symm
theorem IntAt.put {w:World} {u:Value} {n:Int} (h:IntAt w u n) {p:Addr} {c:Value} (e:w.cell? p=some c) (d:NoInt c) (v:Value):IntAt (w.setCell p v) u n:=by
 obtain⟨a,f,hn⟩:=h;exact⟨a,f,hn.put e d v⟩
def Keep (w w':World):Prop:=∀u n,NatAt w u n->NatAt w' u n
theorem Keep.refl (w:World):Keep w w:=fun _ _ h=>h
theorem Keep.trans {a b c:World} (h:Keep a b) (k:Keep b c):Keep a c:=fun u n d=>k u n (h u n d)
theorem Keep.below {w w':World} (a:Below w.heap.size w w'):Keep w w':=fun _ _ h=>h.below a
theorem Keep.alloc (w:World) (o:Obj):Keep w (w.alloc o):=Keep.below ((aH _ _).alloc aE _)
theorem Keep.put {w:World} {p:Addr} {c:Value} (d:w.cell? p=some c) (a:NoInt c) (v:Value):Keep w (w.setCell p v):=fun _ _ h=>h.put d a v
theorem NatAt.keep {w w':World} {v:Value} {n:Nat} (h:NatAt w v n) (a:Keep w w'):NatAt w' v n:=a _ _ h
theorem IntAt.keep {w w':World} {v:Value} {n:Int} (h:IntAt w v n) (a:Keep w w'):IntAt w' v n:=by
 obtain⟨u,hv,c⟩:=h;exact⟨u,hv,a _ _ c⟩
theorem IntAt.drew {w:World} {u:Value} {n:Int} (h:IntAt w u n):IntAt w.drew u n:=h
theorem IntAt.form {w:World} {v:Value} {n:Int} (h:IntAt w v n):∃s A k c,v= .agg #[.bool s,.slice A k c]:=by
 obtain⟨u,rfl,A,c,rfl,_⟩:=h;exact⟨_,_,_,_,rfl⟩
theorem IntAt.words {w:World} {s:Bool} {u:Value} {n:Int} (h:IntAt w (.agg #[.bool s,u]) n):NatAt w u n.natAbs:=by
 obtain⟨a,e,h⟩:=h;simp at e;rw[e.2];exact h
theorem IntAt.neg {w:World} {s:Bool} {u:Value} {n:Int} (h:IntAt w (.agg #[.bool s,u]) n):s=decide (n<0):=by
 obtain⟨a,e,h⟩:=h;simp at e;exact e.1
theorem IntAt.of {w:World} {s:Bool} {u:Value} {n:Int} (h:NatAt w u n.natAbs) (a:s=decide (n<0)):IntAt w (.agg #[.bool s,u]) n:=⟨u,by rw[a],h⟩
theorem IntAt.zero (w:World):IntAt w (.agg #[.bool false,.slice none 0 0]) 0:=IntAt.of (NatAt.nil w) (by simp)
theorem gX {w a:World} {B b:Nat} {t:TypeId} {s k:Bool} {g:Option Addr} {j h:Nat} {u:Value} (i:Below B w a) (e:B<=b) (f:Bx a b [.bool k,.slice g j h] t):
  let W:=(a.setCell ⟨b,0,none⟩ (.bool s)).setCell ⟨b,1,none⟩ u
  W.cell? ⟨b,0,none⟩=some (.bool s)∧W.cell? ⟨b,1,none⟩=some u∧Bx W b [.bool s,u] t∧Below B w W∧Keep a W:=by
 have d:=(f.set 0 (.bool s));have c:=d.set 1 u;refine⟨c.cell 0 rfl,c.cell 1 rfl,c,?_,?_⟩
 ·exact(i.setCell (p:=⟨b,0,none⟩) (by simpa using e) _).setCell (p:=⟨b,1,none⟩) (by simpa using e) _
 ·exact(Keep.put (f.cell 0 rfl) (NoInt.bool _) _).trans (Keep.put (d.cell 1 rfl) (NoInt.slice _ _ _) _)
theorem BL (s:ByteArray) (w:World) (j:Digs s.data.toList) (k:s.size<=1099511627776):
  Calls Tryz.prog 153 #[.string s] w (dB w ((aM s.data.toList:Nat):Int)):=by
 have R:=Bx.new w [.bool false,.slice none 0 0] 59;have a:Below w.heap.size w (w.alloc (.cells #[.bool false,.slice none 0 0] 59)):=(aH _ _).alloc aE _;have f:=fun W=>NH s W j k;generalize aM s.data.toList=m at *;go_enter Tryz.func153,Tryz.ntmps153;go_wp2_with fail;generalize w.alloc (.cells #[.bool false,.slice none 0 0] 59)=W at *;refine(f _).mono ?_;rintro r n ⟨B,rfl,g,e⟩;obtain⟨c,d,rfl, -, -, -⟩:=id g;have R:=R.below e;have z:=R.cell 0 rfl;have A:=R.cell 1 rfl;have x:=R.free 0;have y:=R.free 1;have a:=aC a e;clear f;go_wp2_with fail;obtain⟨o,p, -,i,h⟩:=gX (s:=false) (u:= .slice c (nl m) d) a aE R;have l:=h _ _ g;generalize (n.setCell ⟨w.heap.size,0,none⟩ (.bool false)).setCell ⟨w.heap.size,1,none⟩ (.slice c (nl m) d)=q at *;exact aK (v:= .agg #[.bool false,.slice c (nl m) d]) (by simp[results,Tryz.results153,go_sem,o,p]) rfl ⟨_,rfl,IntAt.of l (by simp),i⟩
theorem sA (a:Bool) (u:Value) (m:Nat) (n:Int) (w:World) (d:NatAt w u m) (f:nl m<=17592186044416) (hn:n=if a then -(m:Int) else m):
  Calls Tryz.prog 119 #[.bool a,u] w (dB w n):=by
 refine(mO a u m n w d f hn).mono ?_;rintro e w' ⟨rfl,c⟩;refine⟨_,rfl,IntAt.of ?_ rfl,c⟩;have:n.natAbs=m:=by subst hn;cases a<;>simp
 rw[this];exact d.below c
def K5 (w:World) (s:Bool) (u:Value) (n:Int) (e:Ending) (w':World):Prop:=∃a,e= .returned (.agg #[.bool a,u])∧IntAt w' (.agg #[.bool a,u]) n∧Below w.heap.size w w'
theorem K6 (x:Int) (s:Bool) (A:Option Addr) (k c:Nat) (w:World) (o:IntAt w (.agg #[.bool s,.slice A k c]) x) (y:nl x.natAbs<=17592186044416):
  Calls Tryz.prog 56 #[.agg #[.bool s,.slice A k c]] w (K5 w s (.slice A k c) (-x)):=by
 have i:=(Bx.new w [.bool s,.slice A k c] 59).alloc (.cells #[.bool false,.slice none 0 0] 59);have R:=Bx.new (w.alloc (.cells #[.bool s,.slice A k c] 59)) [.bool false,.slice none 0 0] 59;have a:Below w.heap.size w ((w.alloc (.cells #[.bool s,.slice A k c] 59)).alloc (.cells #[.bool false,.slice none 0 0] 59)):=((aH _ _).alloc aE _).alloc (by simp) _;have z:w.heap.size<=(w.alloc (.cells #[.bool s,.slice A k c] 59)).heap.size:=by simp
 have e:=o.words.below a;have n: -x=if (!s) then -((x.natAbs:Nat):Int) else ((x.natAbs:Nat):Int):=by
  rw[o.neg];by_cases h:x<0<;>simp[h]<;>omega
 have p:=aB n;obtain⟨d,j⟩:∃d,Hid (decide (-x<0)=d):=⟨_,rfl⟩;clear n;have G:=i.cell 0 rfl;have H:=i.cell 1 rfl;have m:=fun W (h:NatAt W (.slice A k c) x.natAbs)=>mO (!s) _ _ (-x) W h y p.out;rw[j.out] at m;go_enter Tryz.func56,Tryz.ntmps56;go_wp2_with fail;generalize l:(w.alloc (.cells #[.bool s,.slice A k c] 59)).heap.size=g at *;generalize (w.alloc (.cells #[.bool s,.slice A k c] 59)).alloc (.cells #[.bool false,.slice none 0 0] 59)=W at *;refine(m _ e).mono ?_;rintro I C ⟨rfl,f⟩;have R:=R.below f;have L:=R.cell 0 rfl;have M:=R.cell 1 rfl;have J:=R.free 0;have K:=R.free 1;have a:=aC a f;have e:=e.below f;rw[World.size_alloc] at l;subst l;go_wp2_with fail;obtain⟨D,E, -,r,q⟩:=gX (s:=d) (u:= .slice A k c) a z R;have B:=q _ _ e;generalize (C.setCell ⟨w.heap.size+1,0,none⟩ (.bool d)).setCell ⟨w.heap.size+1,1,none⟩ (.slice A k c)=F at *;exact aK (v:= .agg #[.bool d,.slice A k c]) (by simp[results,Tryz.results56,go_sem,D,E]) rfl ⟨_,rfl,IntAt.of (by rw[Int.natAbs_neg];exact B) j.out.symm,r⟩
abbrev C1 (w:World) (b:Nat) (v0:Value):Prop:=w.cell? ⟨b,0,none⟩=some v0
abbrev C2 (w:World) (b:Nat) (v0 v1:Value):Prop:=w.cell? ⟨b,0,none⟩=some v0∧w.cell? ⟨b,1,none⟩=some v1
abbrev C3 (w:World) (b:Nat) (v0 v1 v2:Value):Prop:=w.cell? ⟨b,0,none⟩=some v0∧w.cell? ⟨b,1,none⟩=some v1∧w.cell? ⟨b,2,none⟩=some v2
abbrev C4 (w:World) (b:Nat) (v0 v1 v2 v3:Value):Prop:=w.cell? ⟨b,0,none⟩=some v0∧w.cell? ⟨b,1,none⟩=some v1∧w.cell? ⟨b,2,none⟩=some v2∧w.cell? ⟨b,3,none⟩=some v3
abbrev Fz (w:World) (b:Nat):Prop:=∀j,w.frozen? ⟨b,j,none⟩=false
theorem aa {p q:Prop} (h:p) (k:q):p∧q:=⟨h,k⟩
section
variable {w W:World} {b g o B:Nat} {t:TypeId} {v0 v1 v2 v3 u:Value} {cs:List Value}
theorem Bx.k1 (h:Bx w b [v0] t):C1 w b v0:=h.cell 0 rfl
theorem Bx.k2 (h:Bx w b [v0,v1] t):C2 w b v0 v1:=⟨h.cell 0 rfl,h.cell 1 rfl⟩
theorem Bx.k3 (h:Bx w b [v0,v1,v2] t):C3 w b v0 v1 v2:=⟨h.cell 0 rfl,h.cell 1 rfl,h.cell 2 rfl⟩
theorem Bx.k4 (h:Bx w b [v0,v1,v2,v3] t):C4 w b v0 v1 v2 v3:=⟨h.cell 0 rfl,h.cell 1 rfl,h.cell 2 rfl,h.cell 3 rfl⟩
theorem Bx.g1 (h:Bx w b [v0] t):C1 w b v0∧Fz w b:=⟨h.k1,h.free⟩
theorem Bx.g2 (h:Bx w b [v0,v1] t):C2 w b v0 v1∧Fz w b:=⟨h.k2,h.free⟩
theorem Bx.g3 (h:Bx w b [v0,v1,v2] t):C3 w b v0 v1 v2∧Fz w b:=⟨h.k3,h.free⟩
theorem Bx.g4 (h:Bx w b [v0,v1,v2,v3] t):C4 w b v0 v1 v2 v3∧Fz w b:=⟨h.k4,h.free⟩
theorem dW (a:g≠b) (h:C2 w b v0 v1):C2 (w.setCell ⟨g,o,none⟩ u) b v0 v1:=⟨(aT _ _ _ _ _ _ a).trans h.1,(aT _ _ _ _ _ _ a).trans h.2⟩
theorem jA (a:g≠b) (h:C4 w b v0 v1 v2 v3):C4 (w.setCell ⟨g,o,none⟩ u) b v0 v1 v2 v3:=
 ⟨(aT _ _ _ _ _ _ a).trans h.1,(aT _ _ _ _ _ _ a).trans h.2.1,(aT _ _ _ _ _ _ a).trans h.2.2.1,(aT _ _ _ _ _ _ a).trans h.2.2.2⟩
theorem bB (w:World) (a:List Value) (c:TypeId):∃W,w.alloc (.cells a.toArray c)=W∧Below w.heap.size w W∧Bx W w.heap.size a c:=
 ⟨_,rfl,(aH _ _).alloc aE _,Bx.new _ _ _⟩
theorem dI (w:World) (a:List Value) (c:TypeId) (d:List Value) (e:TypeId):∃W,(w.alloc (.cells a.toArray c)).alloc (.cells d.toArray e)=W∧Below w.heap.size w W∧Bx W w.heap.size a c∧Bx W (w.heap.size+1) d e:=by
 obtain⟨W,rfl,h,f⟩:=bB w a c;exact⟨_,rfl,h.alloc h.size _,f.alloc _,Bx.newAt _ _ _ _ (World.size_alloc _ _)⟩
theorem fF (w:World) (a:List Value) (d:TypeId) (c:List Value) (e:TypeId) (f:List Value) (i:TypeId):
  ∃W,((w.alloc (.cells a.toArray d)).alloc (.cells c.toArray e)).alloc (.cells f.toArray i)=W∧Below w.heap.size w W∧Bx W w.heap.size a d∧Bx W (w.heap.size+1) c e∧Bx W (w.heap.size+1+1) f i:=by
 obtain⟨W,rfl,h,j,k⟩:=dI w a d c e;exact⟨_,rfl,h.alloc h.size _,j.alloc _,k.alloc _,Bx.newAt _ _ _ _ (by simp)⟩
theorem wZ (w:World) (a:List Value) (e:TypeId) (c:List Value) (f:TypeId) (d:List Value) (i:TypeId) (j:List Value) (k:TypeId):
  ∃W,(((w.alloc (.cells a.toArray e)).alloc (.cells c.toArray f)).alloc (.cells d.toArray i)).alloc (.cells j.toArray k)=W∧Below w.heap.size w W∧Bx W w.heap.size a e∧Bx W (w.heap.size+1) c f∧Bx W (w.heap.size+1+1) d i∧Bx W (w.heap.size+1+1+1) j k:=by
 obtain⟨W,rfl,h,l,m,n⟩:=fF w a e c f d i;exact⟨_,rfl,h.alloc h.size _,l.alloc _,m.alloc _,n.alloc _,Bx.newAt _ _ _ _ (by simp)⟩
def dN:Option Value->Bool
 |some (.bool _)=>true
 |some (.string _)=>true
 |some (.slice _ _ _)=>true
 |_=>false
theorem Bx.put1 (h:Bx W b cs t) (f:Below B w W) (d:B<=b) (i:Nat) (v:Value) (hn:dN cs[i]? =true):
  ∃a,W.setCell ⟨b,i,none⟩ v=a∧Bx a b (cs.set i v) t∧Below B w a∧Keep W a∧∀{g:Nat} {cs:List Value} {t:TypeId},Bx W g cs t->b≠g->Bx a g cs t:=by
 refine⟨_,rfl,h.set i v,f.setCell (p:=⟨b,i,none⟩) d v,?_,fun k j=>k.far i v j⟩;cases hc:cs[i]? with
 |none=>rw[hc] at hn;cases hn
 |some c=>
  rw[hc] at hn;refine Keep.put (h.cell i hc) (fun k x e=> ?_) v;subst e;cases hn
theorem Bx.put2 (h:Bx W b cs t) (q:Below B w W) (e:B<=b) (v0 v1:Value) {c d:Value} (r:cs=[c,d]) (hn:(dN (some c)&&dN (some d))=true):
  ∃a,(W.setCell ⟨b,0,none⟩ v0).setCell ⟨b,1,none⟩ v1=a∧Bx a b [v0,v1] t∧Below B w a∧Keep W a∧∀{g:Nat} {cs:List Value} {t:TypeId},Bx W g cs t->b≠g->Bx a g cs t:=by
 subst r;simp only[Bool.and_eq_true] at hn;obtain⟨x,rfl,n,i,s,l⟩:=h.put1 q e 0 v0 hn.1;obtain⟨y,rfl,p,j,v,m⟩:=n.put1 i e 1 v1 hn.2;exact⟨_,rfl,p,j,s.trans v,fun k f=>m (l k f) f⟩
theorem Bx.put3 (h:Bx W b cs t) (x:Below B w W) (c:B<=b) (v0 v1 v2:Value) {e f i:Value} (y:cs=[e,f,i]) (hn:(dN (some e)&&(dN (some f)&&dN (some i)))=true):
  ∃a,((W.setCell ⟨b,0,none⟩ v0).setCell ⟨b,1,none⟩ v1).setCell ⟨b,2,none⟩ v2=a∧Bx a b [v0,v1,v2] t∧Below B w a∧Keep W a∧∀{g:Nat} {cs:List Value} {t:TypeId},Bx W g cs t->b≠g->Bx a g cs t:=by
 subst y;simp only[Bool.and_eq_true] at hn;obtain⟨D,rfl,r,j,z,n⟩:=h.put1 x c 0 v0 hn.1;obtain⟨E,rfl,s,l,A,p⟩:=r.put1 j c 1 v1 hn.2.1;obtain⟨F,rfl,v,m,C,q⟩:=s.put1 l c 2 v2 hn.2.2;exact⟨_,rfl,v,m,(z.trans A).trans C,fun k d=>q (p (n k d) d) d⟩
theorem Bx.put4 (h:Bx W b cs t) (C:Below B w W) (c:B<=b) (v0 v1 v2 v3:Value) {e f i j:Value} (D:cs=[e,f,i,j]) (hn:(dN (some e)&&(dN (some f)&&(dN (some i)&&dN (some j))))=true):
  ∃a,(((W.setCell ⟨b,0,none⟩ v0).setCell ⟨b,1,none⟩ v1).setCell ⟨b,2,none⟩ v2).setCell ⟨b,3,none⟩ v3=a∧Bx a b [v0,v1,v2,v3] t∧Below B w a∧Keep W a∧∀{g:Nat} {cs:List Value} {t:TypeId},Bx W g cs t->b≠g->Bx a g cs t:=by
 subst D;simp only[Bool.and_eq_true] at hn;obtain⟨I,rfl,x,l,E,q⟩:=h.put1 C c 0 v0 hn.1;obtain⟨J,rfl,y,m,F,r⟩:=x.put1 l c 1 v1 hn.2.1;obtain⟨K,rfl,z,n,G,s⟩:=y.put1 m c 2 v2 hn.2.2.1;obtain⟨L,rfl,A,p,H,v⟩:=z.put1 n c 3 v3 hn.2.2.2;exact⟨_,rfl,A,p,((E.trans F).trans G).trans H,fun k d=>v (s (r (q k d) d) d) d⟩
end
theorem K3 (x y:Int) (E F:Value) (w:World) (d:IntAt w E x) (e:IntAt w F y) (N:nl x.natAbs<=17592186044414) (H:nl y.natAbs<=17592186044414):
  Calls Tryz.prog 160 #[E,F] w (dB w (x-y)):=by
 rw[Int.sub_eq_add_neg];have M:nl (-y).natAbs<=17592186044414:=by rw[Int.natAbs_neg];exact H
 obtain⟨C,m,z,p,rfl⟩:=d.form;obtain⟨D,n,A,q,rfl⟩:=e.form;obtain⟨W,r,c,a,b,R⟩:=fF w [.bool C,.slice m z p] 59 [.bool D,.slice n A q] 59 [.bool false,.slice none 0 0] 59;have j:=aa a.g2 (aa b.g2 R.g2);go_enter Tryz.func160,Tryz.ntmps160;go_wp2_with fail;(try rw[r]);clear r;have d:=d.below c;have e:=e.below c;replace d:=d.drew;replace e:=e.drew;replace a:=a.drew;replace b:=b.drew;replace R:=R.drew;replace c:=c.drew;replace j:=aa a.k2 (aa b.k2 R.g2);have I:w.heap.size+1+1≠w.heap.size:=by omega
 have J:w.heap.size+1+1≠w.heap.size+1:=by omega
 go_region_held3 (fun G=>C2 G w.heap.size (.bool C) (.slice m z p)∧C2 G (w.heap.size+1) (.bool D) (.slice n A q))
  (first|(with_reducible exact⟨a.k2,b.k2⟩)|(refine⟨?_,?_⟩<;>(repeat (first|with_reducible exact a.k2|with_reducible exact b.k2|with_reducible refine dW I ?_|with_reducible refine dW J ?_))))
  (first
   |(go_at_call 56;(with_reducible refine(oO y _ _ e (by omega)).mono ?_);rintro P X ⟨U,rfl,k,h⟩;obtain⟨T,K,S,O,rfl⟩:=k.form;replace a:=a.below h;replace b:=b.below h;replace R:=R.below h;replace j:=aa a.k2 (aa b.k2 R.g2);replace f:=Keep.below h;replace d:=d.keep f;replace e:=e.keep f;(try replace g:=g.keep f);replace c:=aC c h)
   |(go_at_call 114;(with_reducible refine(sB x (-y) _ _ _ d k (by omega) (by omega)).mono ?_);rintro Q Y ⟨V,rfl,g,i⟩;obtain⟨B,l,u,o,rfl⟩:=g.form;replace a:=a.below i;replace b:=b.below i;replace R:=R.below i;replace j:=aa a.k2 (aa b.k2 R.g2);replace f:=Keep.below i;replace d:=d.keep f;replace e:=e.keep f;(try replace k:=k.keep f);replace c:=aC c i))
 go_wp2_with fail;obtain⟨L,s,R,c,f,t⟩:=R.put2 c (by omega) (.bool B) (.slice l u o) rfl rfl;replace a:=t a (by omega);replace b:=t b (by omega);replace g:=g.keep f;rw[s];clear s;replace j:=aa a.k2 (aa b.k2 R.k2);exact aK (v:= .agg #[.bool B,.slice l u o]) (by simp[results,Tryz.results160,go_sem,R.k2]) rfl ⟨_,rfl,g,c⟩
theorem BI (x y:Int):x.tdiv y=if (!(decide (x<0)==decide (y<0))) then -((x.natAbs/y.natAbs:Nat):Int) else ((x.natAbs/y.natAbs:Nat):Int):=by
 have f:∀a b:Nat,(a:Int).tdiv b=((a/b:Nat):Int):=fun a b=>rfl;by_cases c:x<0<;>by_cases d:y<0
 ·have e:x.tdiv y=(x.natAbs:Int).tdiv y.natAbs:=by
   conv=>lhs;rw[show x= -(x.natAbs:Int) by omega,show y= -(y.natAbs:Int) by omega,Int.neg_tdiv,Int.tdiv_neg,Int.neg_neg]
  rw[e,f];simp[c,d]
 ·have e:x.tdiv y= -(x.natAbs:Int).tdiv y.natAbs:=by
   conv=>lhs;rw[show x= -(x.natAbs:Int) by omega,show y=(y.natAbs:Int) by omega,Int.neg_tdiv]
  rw[e,f];simp[c,d]
 ·have e:x.tdiv y= -(x.natAbs:Int).tdiv y.natAbs:=by
   conv=>lhs;rw[show x=(x.natAbs:Int) by omega,show y= -(y.natAbs:Int) by omega,Int.tdiv_neg]
  rw[e,f];simp[c,d]
 ·have e:x.tdiv y=(x.natAbs:Int).tdiv y.natAbs:=by
   conv=>lhs;rw[show x=(x.natAbs:Int) by omega,show y=(y.natAbs:Int) by omega]
  rw[e,f];simp[c,d]
theorem BJ (x y:Int):x.tmod y=if decide (x<0) then -((x.natAbs%y.natAbs:Nat):Int) else ((x.natAbs%y.natAbs:Nat):Int):=by
 have d:∀a b:Nat,(a:Int).tmod b=((a%b:Nat):Int):=fun a b=>rfl;have f:∀z:Int,z.tmod y=z.tmod y.natAbs:=fun z=>by
  rcases Int.natAbs_eq y with h|h
  ·rw[<-h]
  ·conv=>lhs;rw[h,Int.tmod_neg]
 rw[f];by_cases c:x<0
 ·have e:x.tmod y.natAbs= -(x.natAbs:Int).tmod y.natAbs:=by
   conv=>lhs;rw[show x= -(x.natAbs:Int) by omega,Int.neg_tmod]
  rw[e,d];simp[c]
 ·have e:x.tmod y.natAbs=(x.natAbs:Int).tmod y.natAbs:=by
   conv=>lhs;rw[show x=(x.natAbs:Int) by omega]
  rw[e,d];simp[c]
def BK (w:World) (m n:Int) (e:Ending) (w':World):Prop:=∃u v,e= .returned (.tuple #[u,v])∧IntAt w' u m∧IntAt w' v n∧Below w.heap.size w w'
theorem K4 (x y:Int) (V X:Value) (w:World) (g:IntAt w V x) (f:IntAt w X y) (aj:y≠0) (hl:nl x.natAbs+4*nl y.natAbs+4<=17592186044416):
  Calls Tryz.prog 180 #[V,X] w (BK w (x.tdiv y) (x.tmod y)):=by
 obtain⟨T,u,E,A,rfl⟩:=g.form;obtain⟨U,z,s,B,rfl⟩:=f.form;have t:=BI x y;have D:=BJ x y;rw[<-g.neg] at t D;rw[<-f.neg] at t;have Z:=aB t;have HR:=aB D;have ah:nl (x.natAbs/y.natAbs)<=nl x.natAbs:=bX (Nat.div_le_self _ _);have ai:nl (x.natAbs%y.natAbs)<=nl x.natAbs:=bX (Nat.mod_le _ _);have ab:s=nl y.natAbs:=by
  obtain⟨A',c',e, -⟩:=f.words;simp only[Value.slice.injEq] at e;exact e.2.1
 have ag:((s:Int)==0)=false:=by
  have:=fI (show y.natAbs≠0 by omega);simp;omega
 have C:=fun W (h1:NatAt W (.slice u E A) x.natAbs) (h2:NatAt W (.slice z s B) y.natAbs)=>qK x.natAbs y.natAbs _ _ W h1 h2 (by omega) (by unfold aI;omega);unfold mS at C;generalize x.natAbs/y.natAbs=q at *;generalize x.natAbs%y.natAbs=r at *;generalize x.tdiv y=Q at *;generalize x.tmod y=R' at *;clear t D ab;obtain⟨W,K,d,a,b,R,S⟩:=wZ w [.bool T,.slice u E A] 59 [.bool U,.slice z s B] 59 [.bool false,.slice none 0 0] 59 [.bool false,.slice none 0 0] 59;have p:=aa a.g2 (aa b.g2 (aa R.g2 S.g2));go_enter Tryz.func180,Tryz.ntmps180;go_wp2_with fail;(try rw[K]);clear K;have g:=g.below d;have f:=f.below d;refine(C _ g.words f.words).mono ?_;rintro e3 w3 ⟨v3,u3,rfl,h,k, -, -,m⟩;obtain⟨A3,c3,rfl, -, -, -⟩:=id h;obtain⟨D3,d3,rfl, -, -, -⟩:=id k;replace a:=a.below m;replace b:=b.below m;replace R:=R.below m;replace S:=S.below m;replace p:=aa a.k2 (aa b.k2 (aa R.g2 S.g2));replace c:=Keep.below m;replace g:=g.keep c;replace f:=f.keep c;replace d:=aC d m;clear C;go_wp2_with fail;replace g:=g.drew;replace f:=f.drew;replace h:=h.drew;replace k:=k.drew;replace a:=a.drew;replace b:=b.drew;replace R:=R.drew;replace S:=S.drew;replace d:=d.drew;replace p:=aa a.k2 (aa b.k2 (aa R.g2 S.g2));have ac:w.heap.size+1+1≠w.heap.size:=by omega
 have ad:w.heap.size+1+1≠w.heap.size+1:=by omega
 have ae:w.heap.size+1+1+1≠w.heap.size:=by omega
 have af:w.heap.size+1+1+1≠w.heap.size+1:=by omega
 go_region_held3 (fun Y=>C2 Y w.heap.size (.bool T) (.slice u E A)∧C2 Y (w.heap.size+1) (.bool U) (.slice z s B))
  (first|(with_reducible exact⟨a.k2,b.k2⟩)|(refine⟨?_,?_⟩<;>(repeat (first|with_reducible exact a.k2|with_reducible exact b.k2|with_reducible refine dW ac ?_|with_reducible refine dW ad ?_|with_reducible refine dW ae ?_|with_reducible refine dW af ?_))))
  (first
   |(go_at_call 119;(with_reducible refine(sA _ _ q Q _ h (by omega) Z.out).mono ?_);rintro e4 w4 ⟨v4,rfl,i,n⟩;obtain⟨O,F,M,H,rfl⟩:=i.form;replace a:=a.below n;replace b:=b.below n;replace R:=R.below n;replace S:=S.below n;replace p:=aa a.k2 (aa b.k2 (aa R.g2 S.g2));replace c:=Keep.below n;replace g:=g.keep c;replace f:=f.keep c;replace h:=h.keep c;replace k:=k.keep c;(try replace j:=j.keep c);replace d:=aC d n)
   |(go_at_call 119;(with_reducible refine(sA _ _ r R' _ k (by omega) HR.out).mono ?_);rintro e5 w5 ⟨v5,rfl,j,o⟩;obtain⟨P,G,N,I,rfl⟩:=j.form;replace a:=a.below o;replace b:=b.below o;replace R:=R.below o;replace S:=S.below o;replace p:=aa a.k2 (aa b.k2 (aa R.g2 S.g2));replace c:=Keep.below o;replace g:=g.keep c;replace f:=f.keep c;replace h:=h.keep c;replace k:=k.keep c;(try replace i:=i.keep c);replace d:=aC d o))
 go_wp2_with fail;obtain⟨U0,J,R,d,c,l⟩:=R.put2 d (by omega) (.bool O) (.slice F M H) rfl rfl;replace a:=l a (by omega);replace b:=l b (by omega);replace S:=l S (by omega);replace i:=i.keep c;replace j:=j.keep c;obtain⟨W6,L,S,d,c,l⟩:=S.put2 d (by omega) (.bool P) (.slice G N I) rfl rfl;replace a:=l a (by omega);replace b:=l b (by omega);replace R:=l R (by omega);replace i:=i.keep c;replace j:=j.keep c;rw[J,L];clear J L;replace p:=aa a.k2 (aa b.k2 (aa R.k2 S.k2));exact aK (v:= .tuple #[.agg #[.bool O,.slice F M H],.agg #[.bool P,.slice G N I]]) (by simp[results,Tryz.results180,go_sem,R.k2,S.k2]) rfl ⟨_,_,rfl,i,j,d⟩
theorem nJ (x y:Int) (O P:Value) (w:World) (g:IntAt w O x) (i:IntAt w P y) (N:y≠0) (Z:nl x.natAbs+4*nl y.natAbs+4<=17592186044416):
  Calls Tryz.prog 138 #[O,P] w (dB w (x.tdiv y)):=by
 obtain⟨H,u,F,D,rfl⟩:=g.form;obtain⟨sy,T,ky,X,rfl⟩:=i.form;have K:y=1->x.tdiv y=x:=fun h=>by rw[h,Int.tdiv_one]
 have B:=aB K;clear K;obtain⟨W,J,a,b,c,R⟩:=fF w [.bool H,.slice u F D] 59 [.bool sy,.slice T ky X] 59 [.bool false,.slice none 0 0] 59;have r:=aa b.g2 (aa c.g2 R.g2);go_enter Tryz.func138,Tryz.ntmps138;go_wp2_with fail;(try rw[J]);clear J;have g:=g.below a;have i:=i.below a;refine(l7 y _ _ i (by omega)).mono ?_;rintro e3 w3 ⟨rfl,n⟩;replace b:=b.below n;replace c:=c.below n;replace R:=R.below n;replace r:=aa b.k2 (aa c.k2 R.g2);replace f:=Keep.below n;replace g:=g.keep f;replace i:=i.keep f;replace a:=aC a n;by_cases s:y=1
 ·have p:decide (y=1)=true:=by simpa using s
  rw[p];have hq:=B.out s;clear p s B N;go_wp2_with fail;rw[hq];obtain⟨U,l,R,a,f,j⟩:=R.put2 a (by omega) (.bool H) (.slice u F D) rfl rfl;replace b:=j b (by omega);replace c:=j c (by omega);replace g:=g.keep f;rw[l];clear l;replace r:=aa b.k2 (aa c.k2 R.k2);exact aK (v:= .agg #[.bool H,.slice u F D]) (by simp[results,Tryz.results138,go_sem,R.k2]) rfl ⟨_,rfl,g,a⟩
 ·have p:decide (y=1)=false:=by simpa using s
  rw[p];clear p B;go_wp2_with fail;have L:=K4 x y _ _ _ g i N Z;unfold BK at L;generalize x.tdiv y=Q at *;generalize x.tmod y=M at *;refine L.mono ?_;rintro e4 q ⟨v4,v5,rfl,k,Y,o⟩;obtain⟨G,t,E,C,rfl⟩:=k.form;obtain⟨s5,S,k5,V,rfl⟩:=Y.form;replace b:=b.below o;replace c:=c.below o;replace R:=R.below o;replace r:=aa b.k2 (aa c.k2 R.g2);replace f:=Keep.below o;replace g:=g.keep f;replace i:=i.keep f;replace a:=aC a o;have ad:∀d e:Obj,((q.alloc d).alloc e).cell? ⟨w.heap.size+1+1,0,none⟩=some (.bool false):=fun d e=>((R.alloc d).alloc e).cell 0 rfl;have af:∀d e:Obj,((q.alloc d).alloc e).frozen? ⟨w.heap.size+1+1,0,none⟩=false:=fun d e=>((R.alloc d).alloc e).free 0;have ae:∀d e:Obj,((q.alloc d).alloc e).cell? ⟨w.heap.size+1+1,1,none⟩=some (.slice none 0 0):=fun d e=>((R.alloc d).alloc e).cell 1 rfl;have ag:∀d e:Obj,((q.alloc d).alloc e).frozen? ⟨w.heap.size+1+1,1,none⟩=false:=fun d e=>((R.alloc d).alloc e).free 1;go_wp2_with fail;have ab:=b.lt;have ac:=c.lt;have ah:=R.lt;have ai:=a.size;obtain⟨U0,I,m,z,A⟩:=dI q [.bool G,.slice t E C] 59 [.bool s5,.slice S k5 V] 59;replace b:=b.below m;replace c:=c.below m;replace R:=R.below m;replace f:=Keep.below m;replace a:=aC a m;replace k:=k.keep f;obtain⟨U,l,R,a,f,j⟩:=R.put2 a (by omega) (.bool G) (.slice t E C) rfl rfl;replace b:=j b (by omega);replace c:=j c (by omega);replace z:=j z (by omega);replace A:=j A (by omega);replace k:=k.keep f;rw[I,l];clear I l;replace r:=aa b.k2 (aa c.k2 (aa R.k2 (aa z.k2 A.k2)));exact aK (v:= .agg #[.bool G,.slice t E C]) (by simp[results,Tryz.results138,go_sem,R.k2]) rfl ⟨_,rfl,k,a⟩
theorem Glob.drew {w:World} (h:Glob w):Glob w.drew:=h.below (aH _ _).drew
theorem K1 (x y:Int) (v z:Value) (w:World) (b:IntAt w v x) (c:IntAt w z y) (F:nl x.natAbs<=17592186044414) (E:nl y.natAbs<=17592186044414):
  Calls Tryz.prog 193 #[v,z] w fun e w'=>e= .returned (.bool (decide (x=y)))∧Below w.heap.size w w':=by
 obtain⟨d,n,t,p,rfl⟩:=b.form;obtain⟨f,o,u,q,rfl⟩:=c.form;have j:=b.neg;have k:=c.neg;by_cases i:(d==f)=true
 ·have D:=iH (x.natAbs:Int) (y.natAbs:Int);have a:decide (x=y)=(bN (x.natAbs:Int) (y.natAbs:Int)==0):=by
   have e:d=f:=by simpa using i
   rw[j,k] at e;rw[Bool.eq_iff_iff,decide_eq_true_iff,beq_iff_eq];by_cases l:x<0<;>by_cases m:y<0<;>simp[l,m] at e<;>omega
  rw[a];have s:=fun W (l:NatAt W (.slice n t p) x.natAbs) (m:NatAt W (.slice o u q) y.natAbs)=>kK x.natAbs y.natAbs _ _ W l m (by omega) (by omega);generalize bN (x.natAbs:Int) (y.natAbs:Int)=H at *;clear D a j k;obtain⟨W,r,g,A,B⟩:=dI w [.bool d,.slice n t p] 59 [.bool f,.slice o u q] 59;have G:=aa A.g2 B.g2;go_enter Tryz.func193,Tryz.ntmps193;go_wp2_with fail;(try rw[r]);clear r;have b:=b.below g;have c:=c.below g;refine(s _ b.words c.words).mono ?_;rintro I K ⟨rfl,C⟩;clear s;go_wp2;go_ret;exact⟨rfl,aC g C⟩
 ·have J:(d==f)=false:=by simpa using i
  have a:decide (x=y)=false:=by
   have e:d≠f:=by simpa using i
   rw[decide_eq_false_iff_not];intro h;subst h;exact e (j.trans k.symm)
  rw[a];clear a j k i;go_enter Tryz.func193,Tryz.ntmps193;go_wp2;go_ret;exact⟨rfl,((aH _ _).alloc aE _).alloc (by simp) _⟩
theorem K2 (x y:Int) (U V:Value) (w:World) (s:Glob w) (f:IntAt w U x) (g:IntAt w V y) (ah:x≠0) (ai:y≠0) (K:Nat) (bx:nl x.natAbs<=K) (Z:nl y.natAbs<=K) (hK:5*K+4<=aI):
  Calls Tryz.prog 194 #[U,V] w (dB w ((Nat.lcm x.natAbs y.natAbs:Nat):Int)):=by
 obtain⟨S,z,k,B,rfl⟩:=f.form;obtain⟨T,A,m,C,rfl⟩:=g.form;have ac:m=nl y.natAbs:=by
  obtain⟨Y,c',e, -⟩:=g.words;simp only[Value.slice.injEq] at e;exact e.2.1
 have ab:k=nl x.natAbs:=by
  obtain⟨Y,c',e, -⟩:=f.words;simp only[Value.slice.injEq] at e;exact e.2.1
 have ae:((m:Int)==0)=false:=by
  have:=fI (show y.natAbs≠0 by omega);simp;omega
 have af:((k:Int)==0)=false:=by
  have:=fI (show x.natAbs≠0 by omega);simp;omega
 have ad:nl (Nat.gcd x.natAbs y.natAbs)<=nl y.natAbs:=bX (Nat.le_of_dvd (by omega) (Nat.gcd_dvd_right _ _));have P:Nat.gcd x.natAbs y.natAbs≠0:=fun h=>by have:=Nat.eq_zero_of_gcd_eq_zero_left h;omega
 have ag:nl (y.natAbs/Nat.gcd x.natAbs y.natAbs)<=nl y.natAbs:=bX (Nat.div_le_self _ _);have Q:x.natAbs*(y.natAbs/Nat.gcd x.natAbs y.natAbs)=Nat.lcm x.natAbs y.natAbs:=by
  rw[Nat.lcm,Nat.mul_div_assoc _ (Nat.gcd_dvd_right _ _)]
 have L:=fun W (s:Glob W) o p=>BR x.natAbs y.natAbs K (.slice z k B) (.slice A m C) W s o p bx Z hK;have J:=fun W v (o:NatAt W (.slice A m C) y.natAbs) (p:NatAt W v (Nat.gcd x.natAbs y.natAbs))=>qK y.natAbs _ _ _ W o p P (by omega);have G:=fun W v (o:NatAt W (.slice z k B) x.natAbs) (p:NatAt W v (y.natAbs/Nat.gcd x.natAbs y.natAbs))=>nV x.natAbs _ _ _ W o p (by omega);rw[Q] at G;unfold mS at J;unfold gS at L G;generalize y.natAbs%Nat.gcd x.natAbs y.natAbs=r at *;generalize y.natAbs/Nat.gcd x.natAbs y.natAbs=q at *;generalize Nat.gcd x.natAbs y.natAbs=d at *;generalize Nat.lcm x.natAbs y.natAbs=l at *;clear Q ab ac P;obtain⟨W,M,c,a,b,R⟩:=fF w [.bool S,.slice z k B] 59 [.bool T,.slice A m C] 59 [.bool false,.slice none 0 0] 59;have n:=aa a.g2 (aa b.g2 R.g2);go_enter Tryz.func194,Tryz.ntmps194;go_wp2_with fail;(try rw[M]);clear M;have f:=f.below c;have g:=g.below c;have s:=(s.below c).drew;replace f:=f.drew;replace g:=g.drew;replace a:=a.drew;replace b:=b.drew;replace R:=R.drew;replace c:=c.drew;replace n:=aa a.k2 (aa b.k2 R.g2)
 go_region_held3 (fun X=>C2 X w.heap.size (.bool S) (.slice z k B)∧C2 X (w.heap.size+1) (.bool T) (.slice A m C))
  (with_reducible exact⟨a.k2,b.k2⟩)
  (first
   |(go_at_call 179;(with_reducible refine(L _ s f.words g.words).mono ?_);rintro e4 w4 ⟨v4,rfl,D, -,t⟩;obtain⟨A4,c4,rfl, -, -, -⟩:=id D;replace a:=a.below t;replace b:=b.below t;replace R:=R.below t;replace n:=aa a.k2 (aa b.k2 R.g2);replace i:=Keep.below t;replace f:=f.keep i;replace g:=g.keep i;(try replace E:=E.keep i);replace c:=aC c t)
   |(go_at_call 207;(with_reducible refine(J _ _ g.words D).mono ?_);rintro e5 w5 ⟨v5,u5,rfl,E, -, -, -,u⟩;obtain⟨A5,c5,rfl, -, -, -⟩:=id E;replace a:=a.below u;replace b:=b.below u;replace R:=R.below u;replace n:=aa a.k2 (aa b.k2 R.g2);replace i:=Keep.below u;replace f:=f.keep i;replace g:=g.keep i;(try replace D:=D.keep i);replace c:=aC c u))
 go_wp2_with fail;refine(G _ _ f.words E).mono ?_;rintro e6 w6 ⟨v6,rfl,j, -,F⟩;obtain⟨H,I,rfl, -, -, -⟩:=id j;replace a:=a.below F;replace b:=b.below F;replace R:=R.below F;replace n:=aa a.k2 (aa b.k2 R.g2);replace c:=aC c F;clear L J G;go_wp2_with fail;have j:IntAt w6 (.agg #[.bool false,.slice H (nl l) I]) (l:Int):=IntAt.of j (by simp);obtain⟨W6,N,R,c,i,O⟩:=R.put2 c (by omega) (.bool false) (.slice H (nl l) I) rfl rfl;replace a:=O a (by omega);replace b:=O b (by omega);replace j:=j.keep i;rw[N];clear N;replace n:=aa a.k2 (aa b.k2 R.k2);exact aK (v:= .agg #[.bool false,.slice H (nl l) I]) (by simp[results,Tryz.results194,go_sem,R.k2]) rfl ⟨_,rfl,j,c⟩
def iD (x:Int):Bool:=decide (-9223372036854775808<=x∧x<=9223372036854775807)
theorem IntAt.len {w:World} {s:Bool} {A:Option Addr} {k c:Nat} {x:Int} (h:IntAt w (.agg #[.bool s,.slice A k c]) x):k=nl x.natAbs:=by
 obtain⟨a,b,e, -⟩:=h.words;simp only[Value.slice.injEq] at e;exact e.2.1
theorem K0 (x:Int) (D:Value) (w:World) (q:IntAt w D x) (E:nl x.natAbs<=17592186044414):
  Calls Tryz.prog 130 #[D] w fun e w'=>e= .returned (.tuple #[.int .i64 (if iD x then x else 0),.bool (iD x)])∧Below w.heap.size w w':=by
 obtain⟨y,L,d,F,rfl⟩:=q.form;have c:=q.len;by_cases l:x=0
 ·have I:((d:Int)==0)=true:=by rw[c,l,show(0:Int).natAbs=0 from rfl,dC];rfl
  have a:iD x=true:=by rw[l];decide
  rw[a,l];clear c l a q E;go_enter Tryz.func130,Tryz.ntmps130;go_wp2;go_ret2;exact⟨rfl,(aH _ _).alloc aE _⟩
 ·have v:=fI (show x.natAbs≠0 by omega);have I:((d:Int)==0)=false:=by simp;omega
  have j:=q.words;obtain⟨K,M,e,N,g, -⟩:=id j;simp only[Value.slice.injEq] at e;obtain⟨rfl, -,rfl⟩:=e;obtain⟨b,s,rfl,A,f⟩:=g.at_ (by rw[aJ];exact v);have r:=f 0 (by rw[aJ];exact v);have P:(0:Int)<(d:Int):=by omega
  by_cases z:d=1
  ·have J:¬(1:Int)<(d:Int):=by omega
   have k:x.natAbs<BN:=by have:=cJ x.natAbs;rw[<-c,z,Nat.pow_one] at this;exact this
   rw[mR (by omega) k] at r;simp only[Nat.add_zero,List.getD_cons_zero] at r;have B:(w.alloc (.cells #[.bool y,.slice (some ⟨b,s,none⟩) d F] 59)).cell? ⟨b,s,none⟩=some (.int .u64 (x.natAbs:Int)):=(((aH _ _).alloc aE _).cell (p:=⟨b,s,none⟩) A).trans r;have i:=q.neg;unfold BN at k;by_cases C:x<0
   ·have m:y=true:=by rw[i];simpa using C
    by_cases G:x.natAbs<=9223372036854775808
    ·have a:iD x=true:=by unfold iD;rw[decide_eq_true_iff];omega
     have u:(x.natAbs:Int)<=9223372036854775808:=by omega
     have O:IntKind.u64.wrap (-(x.natAbs:Int))=18446744073709551616+x:=by rw[IntKind.wrap_u64];omega
     have H:IntKind.i64.wrap (18446744073709551616+x)=x:=by rw[IntKind.wrap_i64];omega
     rw[a,if_pos rfl];clear f a i k c j g;generalize (x.natAbs:Int)=t at *;subst m;go_enter Tryz.func130,Tryz.ntmps130;go_wp2;go_ret2;exact⟨rfl,(aH _ _).alloc aE _⟩
    ·have a:iD x=false:=by unfold iD;rw[decide_eq_false_iff_not];omega
     have u:¬(x.natAbs:Int)<=9223372036854775808:=by omega
     rw[a];clear f a i k c j g;generalize (x.natAbs:Int)=t at *;subst m;go_enter Tryz.func130,Tryz.ntmps130;go_wp2;go_ret2;exact⟨rfl,(aH _ _).alloc aE _⟩
   ·have m:y=false:=by rw[i];simpa using C
    by_cases G:x.natAbs<=9223372036854775807
    ·have a:iD x=true:=by unfold iD;rw[decide_eq_true_iff];omega
     have u:(x.natAbs:Int)<=9223372036854775807:=by omega
     have H:IntKind.i64.wrap (x.natAbs:Int)=x:=by rw[IntKind.wrap_i64];omega
     rw[a,if_pos rfl];clear f a i k c j g;generalize (x.natAbs:Int)=t at *;subst m;go_enter Tryz.func130,Tryz.ntmps130;go_wp2;go_ret2;exact⟨rfl,(aH _ _).alloc aE _⟩
    ·have a:iD x=false:=by unfold iD;rw[decide_eq_false_iff_not];omega
     have u:¬(x.natAbs:Int)<=9223372036854775807:=by omega
     rw[a];clear f a i k c j g;generalize (x.natAbs:Int)=t at *;subst m;go_enter Tryz.func130,Tryz.ntmps130;go_wp2;go_ret2;exact⟨rfl,(aH _ _).alloc aE _⟩
  ·have J:(1:Int)<(d:Int):=by omega
   have a:iD x=false:=by
    unfold iD;rw[decide_eq_false_iff_not];intro h;have:=jL (n:=x.natAbs) (by omega) (by unfold BN;omega);omega
   have B:=fun o=>(((aH w.heap.size w).alloc aE o).cell (p:=⟨b,s+0,none⟩) A).trans r;simp only[Nat.add_zero] at B;rw[a];generalize List.getD (dg x.natAbs) 0 0=t at *;clear f a c j g z l v;go_enter Tryz.func130,Tryz.ntmps130;go_wp2;go_ret2;exact⟨rfl,(aH _ _).alloc aE _⟩
theorem Bx.txt {w w':World} {b:Nat} {cs:List Value} {t:TypeId} {a v:Value} (h:Bx w b cs t) (d:TxtTo w a w' v) (c:a.ownBlock≠some b):Bx w' b cs t:=(d.1.block b h.lt (fun e=>c e.symm)).trans h
def SumAt (w:World) (p Z L M:Nat) (s:Int):Prop:=
 ∃c nv b a,(p<Z∧(∀g,c.ownBlock=some g->g<Z)∧∀g,nv.ownBlock=some g->g<Z)∧Bx w p [c,nv] 163∧OwnN w (p+1) c b∧OwnN w (p+1) nv a∧InR aA b∧InR aA a∧Apart c nv∧b.length<=L∧a.length<=L∧s=aF aA b-aF aA a∧aF aA b+aF aA a<=M
theorem SumAt.below {w w':World} {p Z L M:Nat} {s:Int} (h:SumAt w p Z L M s) (a:Below w.heap.size w w'):SumAt w' p Z L M s:=by
 obtain⟨f,nv,i,g,b,c,d,e,h⟩:=h;exact⟨f,nv,i,g,b,c.below a,d.below a,e.below a,h⟩
theorem SumAt.lt {w:World} {p Z L M:Nat} {s:Int} (h:SumAt w p Z L M s):p<w.heap.size:=by
 obtain⟨c,nv,e,d,b,a,h⟩:=h;exact a.lt
theorem SumAt.now {w:World} {p Z L M:Nat} {s:Int} (h:SumAt w p Z L M s):SumAt w p w.heap.size L M s:=by
 obtain⟨d,nv,i,f,j,a,b,c,h⟩:=h;exact⟨d,nv,i,f,⟨a.lt,fun g e=>(b.lt g e).2,fun g e=>(c.lt g e).2⟩,a,b,c,h⟩
theorem SumAt.new (w:World) (L:Nat):SumAt (w.alloc (.cells #[.slice none 0 0,.slice none 0 0] 163)) w.heap.size (w.heap.size+1) L 0 0:=
 ⟨_,_,[],[],⟨Nat.lt_succ_self _,(fun g e=>by simp[Value.ownBlock] at e),(fun g e=>by simp[Value.ownBlock] at e)⟩,Bx.new w _ _,OwnN.nil _ _,OwnN.nil _ _,InR.nil,InR.nil,fun g e=>by simp[Value.ownBlock] at e,Nat.zero_le _,Nat.zero_le _,by simp[aF],by simp[aF]⟩
theorem rV {w:World} {B p:Nat} {v:Value} {zs:List Int} (h:OwnN w B v zs) (a:p<B):v.ownBlock≠some p:=fun e=>by
 have:=(h.lt p e).1;omega
theorem rW {w:World} {B p:Nat} {v:Value} {zs:List Int} (h:OwnN w B v zs) (a:w.heap.size<=p):v.ownBlock≠some p:=fun e=>by
 have:=(h.lt p e).2;omega
theorem rX {w:World} {B:Nat} {v u:Value} {zs:List Int} (h:OwnN w B v zs) (b:∀g,u.ownBlock=some g->g<B):Apart v u:=fun g e a=>by
 have c:=(h.lt g e).1;have d:=b g a;omega
def rY (Z:Nat) (w w':World):Prop:=∀g,Z<=g->g<w.heap.size->w'.heap[g]? =w.heap[g]?
theorem rZ (p Z L M:Nat) (s x y:Int) (A:Bool) (c:Option Addr) (a i:Nat) (B:Bool) (d:Option Addr) (b j:Nat) (w:World) (h:SumAt w p Z L M s)
  (hx:IntAt w (.agg #[.bool A,.slice c a i]) x) (hy:IntAt w (.agg #[.bool B,.slice d b j]) y) (a7:∀g,(Value.slice c a i).ownBlock=some g->g<p) (ba:∀g,(Value.slice d b j).ownBlock=some g->g<p)
  (hL:nl x.natAbs+nl y.natAbs+1<=L) (az:L+2<=aI) (V:M+x.natAbs*y.natAbs<BN^L):
  Calls Tryz.prog 115 #[.pointer (some ⟨p,0,none⟩),.agg #[.bool A,.slice c a i],.agg #[.bool B,.slice d b j]] w
   fun e w'=>e= .returned (.tuple #[])∧SumAt w' p w'.heap.size L (M+x.natAbs*y.natAbs) (s+x*y)∧Below p w w'∧rY Z w w':=by
 have ac:=hx.len;have ad:=hy.len;have af:=hx.neg;have ag:=hy.neg;have bq:=hx.words;have br:=hy.words;have o:Bx ((w.alloc (.cells #[.bool A,.slice c a i] 59)).alloc (.cells #[.bool B,.slice d b j] 59)) (w.heap.size) [.bool A,.slice c a i] 59:=(Bx.newAt w [.bool A,.slice c a i] 59 (w.heap.size) (by simp)).alloc (.cells #[.bool B,.slice d b j] 59);have q:Bx ((w.alloc (.cells #[.bool A,.slice c a i] 59)).alloc (.cells #[.bool B,.slice d b j] 59)) (w.heap.size+1) [.bool B,.slice d b j] 59:=Bx.newAt (w.alloc (.cells #[.bool A,.slice c a i] 59)) [.bool B,.slice d b j] 59 (w.heap.size+1) (by simp);have k:Below w.heap.size w ((w.alloc (.cells #[.bool A,.slice c a i] 59)).alloc (.cells #[.bool B,.slice d b j] 59)):=((aH _ _).alloc (by simp) _).alloc (by simp<;>omega) _;by_cases ah:x=0
 ·have hk:((a:Int)==0)=true:=by rw[ac,ah,show(0:Int).natAbs=0 from rfl,dC];rfl
  have h':=(h.below k).now;have D:=k.mono (show p<=w.heap.size from Nat.le_of_lt h.lt);have E:x.natAbs*y.natAbs=0:=by rw[ah];simp
  have J:s+x*y=s:=by rw[ah];simp
  rw[E,J,Nat.add_zero];clear ac ad af ag V ah E J o q;go_enter Tryz.func115,Tryz.ntmps115;go_wp2;exact aK (v:= .tuple #[]) (by simp[results,Tryz.results115,go_sem]) rfl ⟨rfl,h',D,fun g _ hg=>k.block g hg⟩
 ·have hk:((a:Int)==0)=false:=by
   have:=fI (show x.natAbs≠0 by omega);simp;omega
  by_cases am:y=0
  ·have bo:((b:Int)==0)=true:=by rw[ad,am,show(0:Int).natAbs=0 from rfl,dC];rfl
   have h':=(h.below k).now;have D:=k.mono (show p<=w.heap.size from Nat.le_of_lt h.lt);have E:x.natAbs*y.natAbs=0:=by rw[am];simp
   have J:s+x*y=s:=by rw[am];simp
   rw[E,J,Nat.add_zero];clear ac ad af ag V ah am E J o q;go_enter Tryz.func115,Tryz.ntmps115;go_wp2;exact aK (v:= .tuple #[]) (by simp[results,Tryz.results115,go_sem]) rfl ⟨rfl,h',D,fun g _ hg=>k.block g hg⟩
  ·have bo:((b:Int)==0)=false:=by
    have:=fI (show y.natAbs≠0 by omega);simp;omega
   have ak:=vS x y;rw[<-af,<-ag] at ak;have HM:=aB ak;obtain⟨pv,nv,t,r,⟨bw,bh,bi⟩,P,K,N,ap,aq,hA,a5,a6,hs,a0⟩:=h;have bc:=eQ aP ap;have a9:=eQ aP aq;have bp:=P.lt;have b0:(((w.alloc (.cells #[.bool A,.slice c a i] 59)).alloc (.cells #[.bool B,.slice d b j] 59))).heap.size=w.heap.size+2:=by simp
   have bx:p+1<=w.heap.size:=bp;have a3:(M:Int)+(x.natAbs*y.natAbs:Nat)<aA^L:=by rw[<-gK];exact_mod_cast V
   have f:=P.below k;have a8:=bq.below k;have bb:=br.below k;have H:=K.below k;have I:=N.below k;have bj:=rX K (fun g e=>Nat.lt_succ_of_lt (a7 g e));have bm:=rX K (fun g e=>Nat.lt_succ_of_lt (ba g e));have bk:=rX N (fun g e=>Nat.lt_succ_of_lt (a7 g e));have bn:=rX N (fun g e=>Nat.lt_succ_of_lt (ba g e));have bs:=rW K aE;have bt:=rW K (show w.heap.size<=w.heap.size+1 by omega);have bf:=rV K (show p<p+1 by omega);have bu:=rW N aE;have bv:=rW N (show w.heap.size<=w.heap.size+1 by omega);have bg:=rV N (show p<p+1 by omega);obtain⟨Q,S,rfl⟩:=K.slice;obtain⟨R,T,rfl⟩:=N.slice;have D:=k.mono (show p<=w.heap.size by omega);have aj:=aB hs;by_cases al:(!(A==B))=true
   ·have av:=fun W (U:OwnN W (p+1) (.slice R r.length T) r) (F:NatAt W (.slice c a i) x.natAbs) (h3:NatAt W (.slice d b j) y.natAbs) (h4:p+1<=W.heap.size)=>DK (p+1) (.slice R r.length T) r x.natAbs y.natAbs L (.slice c a i) (.slice d b j) W h4 U aq F h3 (by omega) (by omega) bk bn a6 hL az (by omega);have ae:s+x*y=aF aA t-(aF aA r+(x.natAbs*y.natAbs:Nat)):=by
     have:=HM.out;rw[if_pos al] at this;rw[this,aj.out];omega
    have HR:=aB ae;have X:aF aA t+(aF aA r+(x.natAbs*y.natAbs:Nat))<=((M+x.natAbs*y.natAbs:Nat):Int):=by omega
    have an:=aB X;generalize x.natAbs*y.natAbs=m at *;clear ae ac ad ak hs a3 V af ag HM aj X bc a9 a0;go_enter Tryz.func115,Tryz.ntmps115;go_wp2_with fail;generalize (w.alloc (.cells #[.bool A,.slice c a i] 59)).alloc (.cells #[.bool B,.slice d b j] 59)=W at *;have o:=o.drew;have q:=q.drew;have f:=f.drew;have b1:=o.cell 1 rfl;have b2:=q.cell 1 rfl;have p1:=f.cell 1 rfl;have D:=D.drew;have I:OwnN W.drew (p+1) (.slice R r.length T) r:=I.below (aH _ _).drew;have H:OwnN W.drew (p+1) (.slice Q t.length S) t:=H.below (aH _ _).drew;have ab:p+1<=W.drew.heap.size:=by show p+1<=W.heap.size;omega
    have O:=aB k;clear k;go_region_with (first|(go_at_call 171;(with_reducible refine(av _ I a8.drew bb.drew ab).mono ?_);rintro e4 C ⟨v4,n,rfl,G,ar,Y,au,l⟩;obtain⟨u,z,rfl⟩:=G.slice;have o:=o.txt l bu;have q:=q.txt l bv;have f:=f.txt l bg;have b1:=o.cell 1 rfl;have b2:=q.cell 1 rfl;have p1:=f.cell 1 rfl;have f1:=f.free 1));all_goals (go_wp2_with fail)
    all_goals have ao:Apart (.slice Q t.length S) (.slice u n.length z):=fun g e e'=>l.apart (fun g E J=>hA g J E) (fun g e=>(H.lt g e).2) g e' e
    all_goals have ai:=(H.grown l.1 (fun g e E=>hA g E e)).grown (lE (w:=C) ⟨p,1,none⟩ (.slice u n.length z)) (fun g e=>by injection e with e;subst e;exact bf)
    all_goals have ay:=G.grown (lE (w:=C) ⟨p,1,none⟩ (.slice u n.length z)) (fun g e=>by injection e with e;subst e;exact rV G (Nat.lt_succ_self _))
    all_goals have ax:rY Z w (C.setCell ⟨p,1,none⟩ (.slice u n.length z)):=fun g U F=>(Below.heap_setCell C ⟨p,1,none⟩ _ g (by show g≠p;omega)).trans ((l.1.block g (aU F O.out.size) (fun e=>by have:=bi g e.symm;omega)).trans (O.out.block g F))
    all_goals have P2:=f.set 1 (.slice u n.length z)
    all_goals have aw:=(D.trans ((l.belowB ab (fun g e=>(I.lt g e).1)).mono (Nat.le_succ p))).setCell (p:=⟨p,1,none⟩) (jX p) (.slice u n.length z)
    all_goals exact bodyPost_end (v:= .tuple #[]) (by simp[results,Tryz.results115,go_sem]) rfl ⟨rfl,SumAt.now (Z:=C.heap.size+p+1) ⟨_,_,t,n,⟨by omega,fun g e=>by have:=(ai.lt g e).2;simp at this;omega,fun g e=>by have:=(G.lt g e).2;omega⟩,P2,ai,ay,ap,ar,ao,a5,au,by rw[Y];exact HR.out,by rw[Y];exact an.out⟩,aw,ax⟩
   ·have av:=fun W (U:OwnN W (p+1) (.slice Q t.length S) t) (F:NatAt W (.slice c a i) x.natAbs) (h3:NatAt W (.slice d b j) y.natAbs) (h4:p+1<=W.heap.size)=>DK (p+1) (.slice Q t.length S) t x.natAbs y.natAbs L (.slice c a i) (.slice d b j) W h4 U ap F h3 (by omega) (by omega) bj bm a5 hL az (by omega);have ae:s+x*y=(aF aA t+(x.natAbs*y.natAbs:Nat))-aF aA r:=by
     have:=HM.out;rw[if_neg al] at this;rw[this,aj.out];omega
    have HR:=aB ae;have X:(aF aA t+(x.natAbs*y.natAbs:Nat))+aF aA r<=((M+x.natAbs*y.natAbs:Nat):Int):=by omega
    have an:=aB X;generalize x.natAbs*y.natAbs=m at *;have bz:(!(A==B))=false:=by simpa using al
    clear ae ac ad ak hs a3 V af ag HM aj X bc a9 a0 al;go_enter Tryz.func115,Tryz.ntmps115;go_wp2_with fail;generalize (w.alloc (.cells #[.bool A,.slice c a i] 59)).alloc (.cells #[.bool B,.slice d b j] 59)=W at *;have o:=o.drew;have q:=q.drew;have f:=f.drew;have b1:=o.cell 1 rfl;have b2:=q.cell 1 rfl;have p1:=f.cell 0 rfl;have D:=D.drew;have I:OwnN W.drew (p+1) (.slice R r.length T) r:=I.below (aH _ _).drew;have H:OwnN W.drew (p+1) (.slice Q t.length S) t:=H.below (aH _ _).drew;have ab:p+1<=W.drew.heap.size:=by show p+1<=W.heap.size;omega
    have O:=aB k;clear k;go_region_with (first|(go_at_call 171;(with_reducible refine(av _ H a8.drew bb.drew ab).mono ?_);rintro e4 C ⟨v4,n,rfl,G,ar,Y,au,l⟩;obtain⟨u,z,rfl⟩:=G.slice;have o:=o.txt l bs;have q:=q.txt l bt;have f:=f.txt l bf;have b1:=o.cell 1 rfl;have b2:=q.cell 1 rfl;have p1:=f.cell 0 rfl;have f1:=f.free 0));all_goals (go_wp2_with fail)
    all_goals have ao:Apart (.slice u n.length z) (.slice R r.length T):=l.apart hA (fun g e=>(I.lt g e).2)
    all_goals have ai:=(I.grown l.1 hA).grown (lE (w:=C) ⟨p,0,none⟩ (.slice u n.length z)) (fun g e=>by injection e with e;subst e;exact bg)
    all_goals have ay:=G.grown (lE (w:=C) ⟨p,0,none⟩ (.slice u n.length z)) (fun g e=>by injection e with e;subst e;exact rV G (Nat.lt_succ_self _))
    all_goals have ax:rY Z w (C.setCell ⟨p,0,none⟩ (.slice u n.length z)):=fun g U F=>(Below.heap_setCell C ⟨p,0,none⟩ _ g (by show g≠p;omega)).trans ((l.1.block g (aU F O.out.size) (fun e=>by have:=bh g e.symm;omega)).trans (O.out.block g F))
    all_goals have P2:=f.set 0 (.slice u n.length z)
    all_goals have aw:=(D.trans ((l.belowB ab (fun g e=>(H.lt g e).1)).mono (Nat.le_succ p))).setCell (p:=⟨p,0,none⟩) (jX p) (.slice u n.length z)
    all_goals exact bodyPost_end (v:= .tuple #[]) (by simp[results,Tryz.results115,go_sem]) rfl ⟨rfl,SumAt.now (Z:=C.heap.size+p+1) ⟨_,_,n,r,⟨by omega,fun g e=>by have:=(G.lt g e).2;omega,fun g e=>by have:=(ai.lt g e).2;simp at this;omega⟩,P2,ay,ai,ar,aq,ao,au,a6,by rw[Y];exact HR.out,by rw[Y];exact an.out⟩,aw,ax⟩
theorem Bx.from {w w':World} {b Z:Nat} {cs:List Value} {t:TypeId} (h:Bx w b cs t) (a:rY Z w w') (c:Z<=b):Bx w' b cs t:=(a b c h.lt).trans h
theorem SumAt.drew {w:World} {p Z L M:Nat} {s:Int} (h:SumAt w p Z L M s):SumAt w.drew p Z L M s:=h.below (aH _ _).drew
theorem JZ (p Z L M:Nat) (s x y:Int) (n:Bool) (a:Option Addr) (c b:Nat) (l:Bool) (d:Option Addr) (i f:Nat) (w:World) (h:SumAt w p Z L M s) (G:Z<=w.heap.size)
  (D:IntAt w (.agg #[.bool n,.slice a c b]) x) (u:IntAt w (.agg #[.bool l,.slice d i f]) y) (X:∀g,(Value.slice a c b).ownBlock=some g->g<p) (Y:∀g,(Value.slice d i f).ownBlock=some g->g<p)
  (R:nl x.natAbs+nl y.natAbs+1<=L) (F:L+2<=aI) (S:M+x.natAbs*y.natAbs<BN^L):
  Calls Tryz.prog 116 #[.pointer (some ⟨p,0,none⟩),.agg #[.bool n,.slice a c b],.agg #[.bool l,.slice d i f]] w
   fun e w'=>e= .returned (.tuple #[])∧SumAt w' p w'.heap.size L (M+x.natAbs*y.natAbs) (s-x*y)∧Below p w w':=by
 have J:=h.lt;have V:nl x.natAbs<=17592186044416:=by unfold aI at F;omega
 have H:=fun W E (K:SumAt W p Z L M s) (N:IntAt W (.agg #[.bool E,.slice a c b]) (-x)) (O:IntAt W (.agg #[.bool l,.slice d i f]) y)=>rZ p Z L M s (-x) y E a c b l d i f W K N O X Y (by rw[Int.natAbs_neg];exact R) F (by rw[Int.natAbs_neg];exact S);rw[Int.natAbs_neg,Int.neg_mul,<-Int.sub_eq_add_neg] at H;generalize x.natAbs*y.natAbs=m at *;generalize s-x*y=r at *;have j:Bx ((w.alloc (.cells #[.bool n,.slice a c b] 59)).alloc (.cells #[.bool l,.slice d i f] 59)) (w.heap.size) [.bool n,.slice a c b] 59:=(Bx.newAt w [.bool n,.slice a c b] 59 (w.heap.size) (by simp)).alloc (.cells #[.bool l,.slice d i f] 59);have k:Bx ((w.alloc (.cells #[.bool n,.slice a c b] 59)).alloc (.cells #[.bool l,.slice d i f] 59)) (w.heap.size+1) [.bool l,.slice d i f] 59:=Bx.newAt (w.alloc (.cells #[.bool n,.slice a c b] 59)) [.bool l,.slice d i f] 59 (w.heap.size+1) (by simp);have o:Below w.heap.size w ((w.alloc (.cells #[.bool n,.slice a c b] 59)).alloc (.cells #[.bool l,.slice d i f] 59)):=((aH _ _).alloc (by simp) _).alloc (by simp<;>omega) _;go_enter Tryz.func116,Tryz.ntmps116;go_wp2_with fail;generalize (w.alloc (.cells #[.bool n,.slice a c b] 59)).alloc (.cells #[.bool l,.slice d i f] 59)=W at *;have D:=(D.below o).drew;have u:=(u.below o).drew;have h:=(h.below o).drew;have t:=(o.mono (Nat.le_of_lt J)).drew;have o:=o.drew;have U:p<=W.drew.heap.size:=aG (Nat.le_of_lt J) o.size;have j:=j.drew;have k:=k.drew;replace z:=j.cell 0 rfl;replace A:=j.cell 1 rfl;replace B:=k.cell 0 rfl;replace C:=k.cell 1 rfl
 go_region_held3 (fun w'=>w'.cell? ⟨w.heap.size,0,none⟩=some (.bool n)∧w'.cell? ⟨w.heap.size,1,none⟩=some (.slice a c b)∧w'.cell? ⟨w.heap.size+1,0,none⟩=some (.bool l)∧w'.cell? ⟨w.heap.size+1,1,none⟩=some (.slice d i f))
  (first|(with_reducible exact⟨z,A,B,C⟩))
  (first
   |(go_at_call 56;(with_reducible refine(K6 x n a c b _ D V).mono ?_);rintro e4 w4 ⟨E,rfl,P,q⟩;have j:=j.below q;have k:=k.below q;have z:=j.cell 0 rfl;have A:=j.cell 1 rfl;have B:=k.cell 0 rfl;have C:=k.cell 1 rfl;have h:=h.below q;have u:=u.below q;have t:=t.trans (q.mono U))
   |(go_at_call 115;(with_reducible refine(H _ _ h P u).mono ?_);rintro e5 w5 ⟨rfl,Q,T,I⟩;have j:=j.from I G;have k:=k.from I (Nat.le_succ_of_le G);have z:=j.cell 0 rfl;have A:=j.cell 1 rfl;have B:=k.cell 0 rfl;have C:=k.cell 1 rfl;have t:=t.trans T))
 go_wp2_with fail;exact bodyPost_end (v:= .tuple #[]) (by simp[results,Tryz.results116,go_sem]) rfl ⟨rfl,Q,t⟩
theorem OwnN.rd {w:World} {B n c:Nat} {A:Option Addr} {zs:List Int} (h:OwnN w B (.slice A n c) zs):Rd .u64 w A zs∧Old w A∧n=zs.length∧zs.length<=c:=by
 rcases id h.2 with ⟨e,d⟩|⟨g,k,l,e,_⟩
 ·have a:zs=[]:=bM d;subst a;simp only[Value.slice.injEq] at e;obtain⟨rfl,rfl,rfl⟩:=e;exact⟨Rd.nil,Old.none,rfl,aE⟩
 ·simp only[Value.slice.injEq] at e;obtain⟨rfl,rfl,rfl⟩:=e;by_cases a:0<zs.length
  ·obtain⟨m,e,o,i,p,b,j⟩:=h.parts a;simp only[Option.some.injEq,Addr.mk.injEq] at e;obtain⟨rfl, -, -⟩:=e;exact⟨Rd.mk b.lt j,Old.mk b.lt,rfl,i⟩
  ·have f:zs=[]:=bM (by omega);subst f;exact⟨Rd.nil,Old.mk (h.lt g (by simp[Value.ownBlock])).2,rfl,Nat.zero_le _⟩
theorem vR (p Z L M:Nat) (s:Int) (w:World) (h:SumAt w p Z L M s) (af:L+2<=aI):
  Calls Tryz.prog 117 #[.pointer (some ⟨p,0,none⟩)] w (dB w s):=by
 unfold aI at af;obtain⟨pv,nv,t,r, -,P,N,O,J,K, -,ak,al,hs, -⟩:=h;obtain⟨a1,c1,rfl⟩:=N.slice;obtain⟨a2,c2,rfl⟩:=O.slice;have aj:=eQ aP J;have ai:=eQ aP K;obtain⟨m,G⟩:∃m:Nat,aF aA t=m:=⟨(aF aA t).toNat,by omega⟩;obtain⟨n,hn⟩:∃n:Nat,aF aA r=n:=⟨(aF aA r).toNat,by omega⟩;have am:nl m<=t.length:=by
  rw[<-aJ,<-lT J G];exact lU t
 have an:nl n<=r.length:=by
  rw[<-aJ,<-lT K hn];exact lU r
 have ae:s=(m:Int)-n:=by rw[hs,G,hn]
 have B:=aB ae;have R:Bx (w.alloc (.cells #[.bool false,.slice none 0 0] 59)) (w.heap.size) [.bool false,.slice none 0 0] 59:=Bx.newAt w [.bool false,.slice none 0 0] 59 (w.heap.size) (by simp);have a:Below w.heap.size w (w.alloc (.cells #[.bool false,.slice none 0 0] 59)):=(aH _ _).alloc (by simp) _;obtain⟨U,o1, -,e1⟩:=(N.below a).rd;obtain⟨V,o2, -,I⟩:=(O.below a).rd;have P:=P.below a;have p0:=P.cell 0 rfl;have p1:=P.cell 1 rfl;have c:=NatAt.trim U J G e1 o1;have f:=NatAt.trim V K hn I o2;have X:=fun k=>eM a1 t t.length c1 _ rfl (U.drewN k) e1 (by omega);have Y:=fun k=>eM a2 r r.length c2 _ rfl (V.drewN k) I (by omega);obtain⟨A1,C1,e, -⟩:=id c;simp only[Value.slice.injEq] at e;obtain⟨-,ac, -⟩:=e;obtain⟨A2,C2,e, -⟩:=id f;simp only[Value.slice.injEq] at e;obtain⟨-,ad, -⟩:=e;rw[ac] at c X;rw[ad] at f Y;clear hs G hn ae aj ai ac ad;go_enter Tryz.func117,Tryz.ntmps117;go_wp2_with fail;generalize w.alloc (.cells #[.bool false,.slice none 0 0] 59)=W at *;go_quiet (first|(go_at_call_of 172 (Value.slice a1 t.length c1);exact sJ (X _))|(go_at_call_of 172 (Value.slice a2 r.length c2);exact sJ (Y _)));go_wp2_with fail;have a:=dH a nq;have c:=c.drewN nq;have f:=f.drewN nq;have R:Bx (W.drewN nq) w.heap.size [.bool false,.slice none 0 0] 59:=R;clear X Y P p0 p1 U V o1 o2 N O;have ab:=iH (m:Int) (n:Int);generalize W.drewN nq=W1 at *;refine(kK m n _ _ _ c f (by omega) (by omega)).mono ?_;rintro I w2 ⟨rfl,Q⟩;replace R:=R.below Q;replace C:=R.cell 0 rfl;replace E:=R.free 0;replace D:=R.cell 1 rfl;replace F:=R.free 1;replace b:=Keep.below Q;replace c:=c.keep b;replace f:=f.keep b;replace a:=aC a Q;by_cases ah:n<=m
 ·have ag:0<=bN (m:Int) (n:Int):=by omega
  have z:s.natAbs=m-n:=by have:=B.out;omega
  have hl:nl (m-n)<=nl m:=bX (Nat.sub_le _ _);have HN:=aB z;have A:s=if false=true then -((m-n:Nat):Int) else ((m-n:Nat):Int):=by have:=B.out;simp;omega
  have H:=aB A;generalize bN (m:Int) (n:Int)=cc at *;clear ab z A;go_wp2_with fail;refine(BM m n _ _ _ c f (by omega) ah).mono ?_;rintro e3 w3 ⟨v3,rfl,x, -,j⟩;obtain⟨A3,c3,rfl, -, -, -⟩:=id x;replace R:=R.below j;replace C:=R.cell 0 rfl;replace E:=R.free 0;replace D:=R.cell 1 rfl;replace F:=R.free 1;replace b:=Keep.below j;replace a:=aC a j;generalize m-n=d at *;go_wp2_with fail;refine(sA false _ d s _ x (by omega) H.out).mono ?_;rintro e4 w4 ⟨v4,rfl,y,l⟩;obtain⟨q,g,o,i,rfl⟩:=y.form;replace R:=R.below l;replace C:=R.cell 0 rfl;replace E:=R.free 0;replace D:=R.cell 1 rfl;replace F:=R.free 1;replace b:=Keep.below l;replace a:=aC a l;go_wp2_with fail;obtain⟨z0,z1, -,S,b⟩:=gX (s:=q) (u:= .slice g o i) a (by omega) R;have T:=y.keep b;generalize (w4.setCell ⟨w.heap.size,0,none⟩ (.bool q)).setCell ⟨w.heap.size,1,none⟩ (.slice g o i)=W6 at *;exact aK (v:= .agg #[.bool q,.slice g o i]) (by simp[results,Tryz.results117,go_sem,z0,z1]) rfl ⟨_,rfl,T,S⟩
 ·have ag:¬0<=bN (m:Int) (n:Int):=by omega
  have z:s.natAbs=n-m:=by have:=B.out;omega
  have hl:nl (n-m)<=nl n:=bX (Nat.sub_le _ _);have HN:=aB z;have A:s=if true=true then -((n-m:Nat):Int) else ((n-m:Nat):Int):=by have:=B.out;simp;omega
  have H:=aB A;generalize bN (m:Int) (n:Int)=cc at *;clear ab z A;go_wp2_with fail;refine(BM n m _ _ _ f c (by omega) (by omega)).mono ?_;rintro e3 w3 ⟨v3,rfl,x, -,j⟩;obtain⟨A3,c3,rfl, -, -, -⟩:=id x;replace R:=R.below j;replace C:=R.cell 0 rfl;replace E:=R.free 0;replace D:=R.cell 1 rfl;replace F:=R.free 1;replace b:=Keep.below j;replace a:=aC a j;generalize n-m=d at *;go_wp2_with fail;refine(sA true _ d s _ x (by omega) (H.out.trans (by simp))).mono ?_;rintro e4 w4 ⟨v4,rfl,y,l⟩;obtain⟨q,g,o,i,rfl⟩:=y.form;replace R:=R.below l;replace C:=R.cell 0 rfl;replace E:=R.free 0;replace D:=R.cell 1 rfl;replace F:=R.free 1;replace b:=Keep.below l;replace a:=aC a l;go_wp2_with fail;obtain⟨z0,z1, -,S,b⟩:=gX (s:=q) (u:= .slice g o i) a (by omega) R;have T:=y.keep b;generalize (w4.setCell ⟨w.heap.size,0,none⟩ (.bool q)).setCell ⟨w.heap.size,1,none⟩ (.slice g o i)=W6 at *;exact aK (v:= .agg #[.bool q,.slice g o i]) (by simp[results,Tryz.results117,go_sem,z0,z1]) rfl ⟨_,rfl,T,S⟩
def bI (q:Rat):Int:=if q.den=1 then 0 else q.den
def RatAt (w:World) (v:Value) (q:Rat):Prop:=∃s u a b,v= .agg #[.bool s,u,.bool a,b]∧IntAt w (.agg #[.bool s,u]) q.num∧IntAt w (.agg #[.bool a,b]) (bI q)
def eP (w:World) (q:Rat) (e:Ending) (w':World):Prop:=∃v,e= .returned v∧RatAt w' v q∧Below w.heap.size w w'
def RL (K:Nat) (q:Rat):Prop:=nl q.num.natAbs<=K∧nl q.den<=K
theorem RatAt.below {w w':World} {v:Value} {q:Rat} (h:RatAt w v q) (a:Below w.heap.size w w'):RatAt w' v q:=by
 obtain⟨s,u,d,f,e,b,c⟩:=h;exact⟨s,u,d,f,e,b.below a,c.below a⟩
theorem RatAt.keep {w w':World} {v:Value} {q:Rat} (h:RatAt w v q) (a:Keep w w'):RatAt w' v q:=by
 obtain⟨s,u,d,f,e,b,c⟩:=h;exact⟨s,u,d,f,e,b.keep a,c.keep a⟩
theorem RatAt.drew {w:World} {v:Value} {q:Rat} (h:RatAt w v q):RatAt w.drew v q:=h
theorem RatAt.form {w:World} {v:Value} {q:Rat} (h:RatAt w v q):∃s A k c f a d c',v= .agg #[.bool s,.slice A k c,.bool f,.slice a d c']:=by
 obtain⟨s,u,f,j,rfl,g,i⟩:=h;obtain⟨_,A,k,c,e⟩:=g.form;obtain⟨_,a,d,c',b⟩:=i.form;simp at e b;rw[e.2,b.2];exact⟨_,_,_,_,_,_,_,_,rfl⟩
theorem RatAt.num {w:World} {s b:Bool} {u c:Value} {q:Rat} (h:RatAt w (.agg #[.bool s,u,.bool b,c]) q):IntAt w (.agg #[.bool s,u]) q.num:=by
 obtain⟨_,_,_,_,e,a,d⟩:=h;simp at e;rw[e.1,e.2.1];exact a
theorem RatAt.den {w:World} {s a:Bool} {u b:Value} {q:Rat} (h:RatAt w (.agg #[.bool s,u,.bool a,b]) q):IntAt w (.agg #[.bool a,b]) (bI q):=by
 obtain⟨_,_,_,_,e,d,c⟩:=h;simp at e;rw[e.2.2.1,e.2.2.2];exact c
theorem RatAt.of {w:World} {s a:Bool} {u b:Value} {q:Rat} {n d:Int} (f:IntAt w (.agg #[.bool s,u]) n) (g:IntAt w (.agg #[.bool a,b]) d) (c:q.num=n) (e:bI q=d):RatAt w (.agg #[.bool s,u,.bool a,b]) q:=
 ⟨s,u,a,b,rfl,by rw[c];exact f,by rw[e];exact g⟩
theorem kH (q:Rat):nl (bI q).natAbs<=nl q.den:=by
 refine bX ?_;unfold bI;split<;>omega
theorem eK {q:Rat}:bI q=0↔q.den=1:=by
 have:=q.den_nz;unfold bI;split<;>omega
theorem kZ {q:Rat} (h:q.den≠1):bI q=q.den:=by unfold bI;rw[if_neg h]
theorem BD (q:Rat) (n d:Int) (B A:Value) (w:World) (hn:IntAt w B n) (e:IntAt w A d) (z:q.num=n) (D:(q.den:Int)=d) (E:nl d.natAbs<=17592186044416):
  Calls Tryz.prog 122 #[B,A] w (eP w q):=by
 obtain⟨m,g,l,h,rfl⟩:=hn.form;obtain⟨u,o,t,r,rfl⟩:=e.form;obtain⟨W,x,a,b,c,R⟩:=fF w [.bool m,.slice g l h] 59 [.bool u,.slice o t r] 59 [.bool false,.slice none 0 0,.bool false,.slice none 0 0] 66;have p:=aa b.g2 (aa c.g2 R.g4);go_enter Tryz.func122,Tryz.ntmps122;go_wp2_with fail;(try rw[x]);clear x;have hn:=hn.below a;have e:=e.below a;refine(l7 d _ _ e (by omega)).mono ?_;rintro F G ⟨rfl,k⟩;replace b:=b.below k;replace c:=c.below k;replace R:=R.below k;replace p:=aa b.k2 (aa c.k2 R.g4);replace f:=Keep.below k;replace hn:=hn.keep f;replace e:=e.keep f;replace a:=aC a k;by_cases y:d=1
 ·have s:decide (d=1)=true:=by simpa using y
  rw[s];go_wp2_with fail;obtain⟨C,i,R,a,f,j⟩:=R.put4 a (by omega) (.bool m) (.slice g l h) (.bool false) (.slice none 0 0) rfl rfl;replace b:=j b (by omega);replace c:=j c (by omega);replace hn:=hn.keep f;rw[i];clear i;replace p:=aa b.k2 (aa c.k2 R.k4);exact aK (v:= .agg #[.bool m,.slice g l h,.bool false,.slice none 0 0]) (by simp[results,Tryz.results122,go_sem,R.k4]) rfl ⟨_,rfl,RatAt.of hn (IntAt.zero _) z (eK.2 (by omega)),a⟩
 ·have s:decide (d=1)=false:=by simpa using y
  rw[s];go_wp2_with fail;obtain⟨C,i,R,a,f,j⟩:=R.put4 a (by omega) (.bool m) (.slice g l h) (.bool u) (.slice o t r) rfl rfl;replace b:=j b (by omega);replace c:=j c (by omega);replace hn:=hn.keep f;replace e:=e.keep f;rw[i];clear i;replace p:=aa b.k2 (aa c.k2 R.k4);exact aK (v:= .agg #[.bool m,.slice g l h,.bool u,.slice o t r]) (by simp[results,Tryz.results122,go_sem,R.k4]) rfl ⟨_,rfl,RatAt.of hn e z ((kZ (by omega)).trans D),a⟩
theorem BE {n d:Int} (c:0<d):((n:Rat)/d).num=n.tdiv (Nat.gcd n.natAbs d.natAbs:Nat)∧((((n:Rat)/d).den:Nat):Int)=d.tdiv (Nat.gcd n.natAbs d.natAbs:Nat):=by
 have e:d.gcd n=Nat.gcd n.natAbs d.natAbs:=by rw[Int.gcd_comm];rfl
 have a:((Nat.gcd n.natAbs d.natAbs:Nat):Int)∣n:=Int.ofNat_dvd_left.2 (Nat.gcd_dvd_left _ _);have b:((Nat.gcd n.natAbs d.natAbs:Nat):Int)∣d:=Int.ofNat_dvd_left.2 (Nat.gcd_dvd_right _ _);rw[<-Rat.divInt_eq_div,Rat.num_divInt,Rat.den_divInt,if_neg (by omega),e,Int.sign_eq_one_of_pos c,Int.one_mul,Int.tdiv_eq_ediv_of_dvd a,Int.tdiv_eq_ediv_of_dvd b];refine⟨rfl,?_⟩;rw[Int.natCast_ediv];congr 1;omega
theorem BG (n d:Int):((-n:Int):Rat)/((-d:Int):Rat)=(n:Rat)/d:=by
 rw[Rat.intCast_neg,Rat.intCast_neg];grind
theorem BH (d:Int):((0:Int):Rat)/(d:Rat)=0:=by
 rw[Rat.intCast_zero];grind
section
variable {α:Type} {k:Nat}
theorem kF {rows:List (List α)} (d:∀r∈rows,r.length=k) {i j:Nat} {r:List α} (hi:rows[i]? =some r) (f:j<k):rows.flatten[i*k+j]? =r[j]? :=by
 induction rows generalizing i with
 |nil=>simp at hi
 |cons a rows e=>
  have c:a.length=k:=d a (List.mem_cons_self ..);cases i with
  |zero=>
   simp at hi;subst hi;rw[List.flatten_cons,Nat.zero_mul,aS,f8 (by omega)]
  |succ i=>
   rw[List.flatten_cons,dS (by rw[c,Nat.succ_mul];omega),c,show(i+1)*k+j-k=i*k+j by rw[Nat.succ_mul];omega];exact e (fun r h=>d r (List.mem_cons_of_mem _ h)) (by simpa using hi)
theorem JY {rows:List (List α)} (d:∀r∈rows,r.length=k) {i j:Nat} {r:List α} (hi:rows[i]? =some r) (f:j<k) (v:α):rows.flatten.set (i*k+j) v=(rows.set i (r.set j v)).flatten:=by
 induction rows generalizing i with
 |nil=>simp at hi
 |cons a rows e=>
  have c:a.length=k:=d a (List.mem_cons_self ..);cases i with
  |zero=>
   simp at hi;subst hi;rw[List.flatten_cons,Nat.zero_mul,aS,List.set_append_left _ _ (by omega),List.set_cons_zero,List.flatten_cons]
  |succ i=>
   rw[List.flatten_cons,List.set_append_right _ _ (by rw[c,Nat.succ_mul];omega),c,show(i+1)*k+j-k=i*k+j by rw[Nat.succ_mul];omega,e (fun r h=>d r (List.mem_cons_of_mem _ h)) (by simpa using hi),List.set_cons_succ,List.flatten_cons]
theorem kG {rows:List (List α)} (c:∀r∈rows,r.length=k):rows.flatten.length=rows.length*k:=by
 induction rows with
 |nil=>simp
 |cons a rows d=>rw[List.flatten_cons,aY,d (fun r h=>c r (List.mem_cons_of_mem _ h)),c a (List.mem_cons_self ..),List.length_cons,Nat.succ_mul];omega
end
def Rw (w:World) (b k:Nat) (rows:List (List Value)) (t:TypeId):Prop:=Bx w b rows.flatten t∧∀r∈rows,r.length=k
section
variable {w w':World} {b k:Nat} {rows:List (List Value)} {t:TypeId}
theorem Rw.lt (h:Rw w b k rows t):b<w.heap.size:=h.1.lt
theorem Rw.cell (h:Rw w b k rows t) {i:Nat} (j:Nat) {r:List Value} {v:Value} (hi:rows[i]? =some r) (hv:r[j]? =some v):w.cell? ⟨b,i*k+j,none⟩=some v:=by
 have c:=h.2 r (cH hi);have a:j<k:=by rw[<-c];exact(List.getElem?_eq_some_iff.1 hv).1
 exact h.1.cell _ ((kF h.2 hi a).trans hv)
theorem Rw.free (h:Rw w b k rows t) (j:Nat):w.frozen? ⟨b,j,none⟩=false:=h.1.free j
theorem Rw.below (h:Rw w b k rows t) (a:Below w.heap.size w w'):Rw w' b k rows t:=⟨h.1.below a,h.2⟩
theorem Rw.alloc (h:Rw w b k rows t) (o:Obj):Rw (w.alloc o) b k rows t:=⟨h.1.alloc o,h.2⟩
theorem Rw.drew (h:Rw w b k rows t):Rw w.drew b k rows t:=h
theorem Rw.far (h:Rw w b k rows t) {g:Nat} (o:Nat) (v:Value) (a:g≠b):Rw (w.setCell ⟨g,o,none⟩ v) b k rows t:=⟨h.1.far o v a,h.2⟩
theorem Rw.set (h:Rw w b k rows t) {i:Nat} (j:Nat) {r:List Value} (hi:rows[i]? =some r) (c:j<k) (v:Value):Rw (w.setCell ⟨b,i*k+j,none⟩ v) b k (rows.set i (r.set j v)) t:=by
 refine⟨?_,fun e d=> ?_⟩
 ·rw[<-JY h.2 hi c];exact h.1.set _ _
 ·rcases List.mem_or_eq_of_mem_set d with a|rfl
  ·exact h.2 _ a
  ·rw[List.length_set];exact h.2 _ (cH hi)
end
def IRow (w:World) (rows:List (List Value)) (ns:List Int):Prop:=∀(i:Nat) (n:Int),ns[i]? =some n->∃s A l c,rows[i]? =some [Value.bool s,Value.slice A l c]∧IntAt w (.agg #[.bool s,.slice A l c]) n
theorem IRow.keep {w w':World} {rows:List (List Value)} {ns:List Int} (h:IRow w rows ns) (e:Keep w w'):IRow w' rows ns:=fun i n hi=>by
 obtain⟨s,A,l,c,a,d⟩:=h i n hi;exact⟨s,A,l,c,a,d.keep e⟩
theorem IRow.take {w:World} {rows:List (List Value)} {ns:List Int} (h:IRow w rows ns) (m:Nat):IRow w rows (ns.take m):=fun i n hi=>by
 rw[List.getElem?_take] at hi;split at hi
 ·exact h i n hi
 ·cases hi
theorem IRow.set {w:World} {rows:List (List Value)} {ns:List Int} (h:IRow w rows ns) (u:ns.length<=rows.length) {i:Nat} {s:Bool} {A:Option Addr} {l c:Nat} {n:Int} (hn:IntAt w (.agg #[.bool s,.slice A l c]) n):IRow w (rows.set i [.bool s,.slice A l c]) (ns.set i n):=fun j m a=>by
 by_cases e:i=j
 ·subst e;have p:i<ns.length:=by
   have:=(List.getElem?_eq_some_iff.1 a).1;rw[List.length_set] at this;exact this
  rw[List.getElem?_set_self p] at a;injection a with a;subst a;exact⟨s,A,l,c,by rw[List.getElem?_set_self (by omega)],hn⟩
 ·rw[List.getElem?_set_ne e] at a;obtain⟨r,d,q,f,g,o⟩:=h j m a;exact⟨r,d,q,f,by rw[List.getElem?_set_ne e];exact g,o⟩
def WholeAt (w:World) (v:Value) (ns:List Int):Prop:=∃A c,v= .slice A ns.length c∧ns.length<=c∧(ns=[]∨∃b rows,A=some ⟨b,0,none⟩∧Rw w b 2 rows 59∧IRow w rows ns)
theorem WholeAt.below {w w':World} {v:Value} {ns:List Int} (h:WholeAt w v ns) (a:Below w.heap.size w w'):WholeAt w' v ns:=by
 obtain⟨A,c,hv,d,h⟩:=h;refine⟨A,c,hv,d,?_⟩;rcases h with h|⟨b,rows,e,g,f⟩
 ·exact .inl h
 ·exact .inr ⟨b,rows,e,g.below a,f.keep (Keep.below a)⟩
theorem WholeAt.drew {w:World} {v:Value} {ns:List Int} (h:WholeAt w v ns):WholeAt w.drew v ns:=h.below (aH _ _).drew
theorem WholeAt.nil (w:World) (A:Option Addr) (c:Nat):WholeAt w (.slice A 0 c) []:=⟨A,c,rfl,Nat.zero_le _,.inl rfl⟩
theorem WholeAt.cut {w:World} {A:Option Addr} {c l:Nat} {ns:List Int} (h:WholeAt w (.slice A l c) ns) (m:Nat) (d:m<=ns.length):WholeAt w (.slice A m c) (ns.take m):=by
 obtain⟨g,i,e,j,h⟩:=h;simp only[Value.slice.injEq] at e;obtain⟨rfl,rfl,rfl⟩:=e;refine⟨A,c,by rw[aZ,Nat.min_eq_left d],by rw[aZ];omega,?_⟩;rcases h with h|⟨b,rows,e,f,a⟩
 ·exact .inl (by rw[h];simp)
 ·exact .inr ⟨b,rows,e,f,a.take m⟩
theorem WholeAt.at_ {w:World} {A:Option Addr} {c l:Nat} {ns:List Int} (h:WholeAt w (.slice A l c) ns) {i:Nat} {n:Int} (hi:ns[i]? =some n):
  ∃b s B m d,A=some ⟨b,0,none⟩∧b<w.heap.size∧w.cell? ⟨b,i*2,none⟩=some (.bool s)∧w.cell? ⟨b,i*2+1,none⟩=some (.slice B m d)∧IntAt w (.agg #[.bool s,.slice B m d]) n:=by
 obtain⟨o,p,e,q,h⟩:=h;simp only[Value.slice.injEq] at e;obtain⟨rfl,rfl,rfl⟩:=e;rcases h with h|⟨b,rows,e,a,j⟩
 ·rw[h] at hi;simp at hi
 ·obtain⟨s,B,m,d,f,g⟩:=j i n hi;exact⟨b,s,B,m,d,e,a.lt,a.cell 0 f rfl,a.cell 1 f rfl,g⟩
theorem WholeAt.form {w:World} {v:Value} {ns:List Int} (h:WholeAt w v ns):∃A c,v= .slice A ns.length c∧ns.length<=c:=by
 obtain⟨A,c,hv,a,_⟩:=h;exact⟨A,c,hv,a⟩
def OwnW (w:World) (b:Nat) (ns:List Int):Prop:=∃rows,Rw w b 2 rows 59∧ns.length<=rows.length∧IRow w rows ns
section
variable {w w':World} {b:Nat} {ns:List Int}
theorem OwnW.lt (h:OwnW w b ns):b<w.heap.size:=by
 obtain⟨rows,a,_⟩:=h;exact a.lt
theorem OwnW.below (h:OwnW w b ns) (a:Below w.heap.size w w'):OwnW w' b ns:=by
 obtain⟨rows,e,d,c⟩:=h;exact⟨rows,e.below a,d,c.keep (Keep.below a)⟩
theorem OwnW.alloc (h:OwnW w b ns) (o:Obj):OwnW (w.alloc o) b ns:=h.below ((aH _ _).alloc aE _)
theorem OwnW.drew (h:OwnW w b ns):OwnW w.drew b ns:=h.below (aH _ _).drew
theorem OwnW.far (h:OwnW w b ns) {g o:Nat} {c:Value} (i:w.cell? ⟨g,o,none⟩=some c) (a:NoInt c) (v:Value) (f:g≠b):OwnW (w.setCell ⟨g,o,none⟩ v) b ns:=by
 obtain⟨rows,j,e,d⟩:=h;exact⟨rows,j.far o v f,e,d.keep (Keep.put i a v)⟩
theorem OwnW.whole (h:OwnW w b ns) (c:Nat) (a:ns.length<=c):WholeAt w (.slice (some ⟨b,0,none⟩) ns.length c) ns:=by
 obtain⟨rows,e,f,d⟩:=h;exact⟨_,c,rfl,a,.inr ⟨b,rows,rfl,e,d⟩⟩
theorem OwnW.take (h:OwnW w b ns) (m:Nat):OwnW w b (ns.take m):=by
 obtain⟨rows,c,d,a⟩:=h;exact⟨rows,c,by rw[aZ];omega,a.take m⟩
theorem OwnW.at_ (h:OwnW w b ns) {i:Nat} {n:Int} (hi:ns[i]? =some n):∃s B m d,w.cell? ⟨b,i*2,none⟩=some (.bool s)∧w.cell? ⟨b,i*2+1,none⟩=some (.slice B m d)∧IntAt w (.agg #[.bool s,.slice B m d]) n:=by
 obtain⟨rows,c,g,f⟩:=h;obtain⟨s,B,m,d,a,e⟩:=f i n hi;exact⟨s,B,m,d,c.cell 0 a rfl,c.cell 1 a rfl,e⟩
theorem OwnW.free (h:OwnW w b ns) (j:Nat):w.frozen? ⟨b,j,none⟩=false:=by
 obtain⟨rows,a,_⟩:=h;exact a.free j
theorem OwnW.put (h:OwnW w b ns) {i:Nat} (hi:i<ns.length) {s:Bool} {A:Option Addr} {l c:Nat} {n:Int} (hn:IntAt w (.agg #[.bool s,.slice A l c]) n):
  let W:=(w.setCell ⟨b,i*2,none⟩ (.bool s)).setCell ⟨b,i*2+1,none⟩ (.slice A l c)
  OwnW W b (ns.set i n)∧Keep w W∧W.heap.size=w.heap.size:=by
 obtain⟨rows,o,m,j⟩:=h;obtain⟨v,d,p,e,g,x⟩:=j i ns[i] (aL hi);have q:=o.set 0 g (by omega) (.bool s);have r:i<rows.length:=by omega
 have f:(rows.set i ([Value.bool v,.slice d p e].set 0 (.bool s)))[i]? =some [.bool s,.slice d p e]:=by rw[List.getElem?_set_self r];rfl
 have u:=q.set 1 f (by omega) (.slice A l c)
 have a:Keep w ((w.setCell ⟨b,i*2,none⟩ (.bool s)).setCell ⟨b,i*2+1,none⟩ (.slice A l c)):=
  (Keep.put (o.cell 0 g rfl) (NoInt.bool _) _).trans (Keep.put (q.cell 1 f rfl) (NoInt.slice _ _ _) _)
 refine⟨⟨_,u,by simpa using m,?_⟩,a,by simp⟩;have:=(j.keep a).set m (i:=i) (hn.keep a);simpa using this
end
theorem JW (z:Array Value) (n:Nat) (g:0<z.size):(madeCells z (n*z.size)).toList=(List.replicate n z.toList).flatten:=by
 have d:∀r∈List.replicate n z.toList,r.length=z.size:=fun r h=>by rw[List.eq_of_mem_replicate h];simp
 have l:(List.replicate n z.toList).flatten.length=n*z.size:=by rw[kG d,cN]
 refine List.ext_getElem? (fun j=> ?_);by_cases c:j<n*z.size
 ·have k:j/z.size<n:=by rw[Nat.div_lt_iff_lt_mul g];exact c
  have f:j%z.size<z.size:=Nat.mod_lt _ g;have e:j=j/z.size*z.size+j%z.size:=by rw[dD];exact(Nat.div_add_mod j z.size).symm
  have b:=kF (rows:=List.replicate n z.toList) d (i:=j/z.size) (j:=j%z.size) (r:=z.toList) (by rw[List.getElem?_replicate,if_pos k]) f;rw[<-e] at b;rw[b];unfold madeCells;rw[Array.getElem?_toList];simp[c,f]
 ·rw[eF (by simp[size_madeCells];omega),eF (by omega)]
section
variable {P:Program} {w:World} {ops:Array Oper} {rest:List Oper} {o:Oper} {a:Act} {Q:Exit->Act->World->Prop}
theorem gJ (A:o.guard=none) {l c:Operand} {t:TypeId} (E:o.op=Op.makeSlice t l c) (e:TypeId) (z:Value) (d f:Nat)
  (m:P.underlying t=some (.slice e)) (hi:(P.info? e).map (fun i=>(i.zero,i.size,i.bytes))=some (some z,d,f)) (g:z.cells.size=d) (J:0<d) (n:Nat) {k j:IntKind} {L C:Int}
  (D:a.eval l= .int k L) (y:a.eval c= .int j C) (u:L=(n:Int)) (p:C=(n:Int)) (H:f*n<=281474976710656) (I:n<=9223372036854775807)
  (q:∀w',w.heap.size<w'.heap.size->Rw w' w.heap.size d (List.replicate n z.cells.toList) e->Below w.heap.size w w'->
   wpList P ops Q rest (a.put o.dst (.slice (some ⟨w.heap.size,0,none⟩) n n)) w'):wpList P ops Q (o :: rest) a w:=by
 obtain⟨i,B,G,F,x⟩:=info_parts hi;subst u p x;have v:(i.bytes:Int)*(n:Int)<=281474976710656:=by
  have h:((i.bytes*n:Nat):Int)<=281474976710656:=by omega
  rwa [Int.natCast_mul] at h
 have b:=run_make (P:=P) w t e i z m B G k j n n (by omega) (by omega) v (by omega);simp only[Int.toNat_natCast] at b;refine wpList_plain A fun K s=> ?_;unfold Oper.wp;simp[execOp,E,D,y,b,Result.andThen];refine s _ _ (q _ ?_ ?_ ?_)
 ·simp
 ·refine⟨?_,fun r b=>by rw[List.eq_of_mem_replicate b];simpa using g⟩;have:=heap_alloc_new w (.cells (madeCells z.cells (n*i.size)) e);unfold Bx;rw[this,F,<-g,<-JW z.cells n (by omega)]
 ·exact(aH _ _).alloc aE _
end
theorem mN:(Tryz.prog.info? 59).map (fun i=>(i.zero,i.size,i.bytes))=some (some (.agg #[.bool false,.slice none 0 0]),2,32):=by kernel_rfl
theorem BC:(Tryz.prog.info? 66).map (fun i=>(i.zero,i.size,i.bytes))=some (some (.agg #[.bool false,.slice none 0 0,.bool false,.slice none 0 0]),4,64):=by kernel_rfl
theorem OwnW.made {w:World} {b n:Nat} (h:Rw w b 2 (List.replicate n [.bool false,.slice none 0 0]) 59):OwnW w b (List.replicate n 0):=
 ⟨_,h,by simp,fun i m c=>⟨false,none,0,0,by
  have:=(List.getElem?_eq_some_iff.1 c).1;rw[cN] at this;rw[List.getElem?_replicate,if_pos this],by
  have:=List.getElem?_replicate (n:=n) (a:=(0:Int)) (i:=i);rw[c] at this;split at this
  ·injection this with this;subst this;exact IntAt.zero w
  ·cases this⟩⟩
theorem pV (ns:List Int) (A:Option Addr) (c:Nat) (w:World) (hv:WholeAt w (.slice A ns.length c) ns) (K:Nat) (F:∀n∈ns,nl n.natAbs<=K) (R:K<=17592186044416) (V:ns.length<=1099511627776):
  Calls Tryz.prog 118 #[.slice A ns.length c] w fun e w'=>e= .returned (.slice A (aX aW ns).length c)∧WholeAt w' (.slice A (aX aW ns).length c) (aX aW ns)∧Below w.heap.size w w':=by
 have T:ns.length<=c:=by
  obtain⟨J,L,e,h,_⟩:=hv;simp only[Value.slice.injEq] at e;omega
 go_enter Tryz.func118,Tryz.ntmps118;go_wp2_with fail;go_loopg [3] ns.length (fun k i wr=>∃m,Hid (m=k)∧i= .int .i64 m∧m<=ns.length∧Hid (aX aW (ns.take m)=aX aW ns)∧Below w.heap.size w wr)
 case atStart=>exact⟨ns.length,rfl,rfl,aE,by unfold Hid;rw[List.take_length],aH _ _⟩
 case round=>
  obtain⟨m,t,rfl,y,p,g⟩:=hrel;have W:(0:Int)<=(m:Int):=by omega
  cases gk with
  |zero=>
   obtain rfl:m=0:=t.out;have q:Hid (aX aW ns=[]):=p.out.symm;go_wp2_with fail;go_ret;rw[q.out];exact⟨rfl,WholeAt.nil _ _ _,g⟩
  |succ k=>
   have H:m=k+1:=t.out;subst H;obtain⟨n,hn⟩:∃n,ns[k]? =some n:=⟨_,aL (by omega)⟩;obtain⟨b,s,B,l,d,rfl,S,N,O,G⟩:=(hv.below g).at_ hn;have U:=F n (cH hn);have I:=(hv.below g).cut (k+1) y;have x:=vM aW ns hn;have z:=vN aW ns hn;have D:=aB x;have E:=aB z;clear x z;have X:((k:Int)+1)<=(ns.length:Int):=by omega
   have Y:k+1<=c:=by omega
   go_wp2_with fail;refine(fD n _ _ G (by omega)).mono ?_;rintro M Z ⟨rfl,v⟩;have u:=aC g v;by_cases j:n=0
   ·have f:decide (n=0)=true:=by simpa using j
    have r:aW n=true:=f;rw[f];clear f j;go_wp2_with fail;go_roundg k
    case rel=>exact⟨k,rfl,by go_num,by omega,by unfold Hid;rw[<-D.out r];exact p.out,u⟩
    case measure=>omega
   ·have f:decide (n=0)=false:=by simpa using j
    have r:aW n=false:=f;rw[f];have C:aX aW ns=ns.take (k+1):=by rw[<-p.out];exact E.out r
    have q:=aB C;clear f j C;go_wp2_with fail;go_ret;rw[q.out,aZ,Nat.min_eq_left y];exact⟨rfl,I.below v,u⟩
theorem lR {α:Type} {ys:List α} {z y:α} {j k:Nat} (b:ys[j]? =some y):(ys.take j++List.replicate (k+1) z).set j y=ys.take (j+1)++List.replicate k z:=by
 have d:j<ys.length:=(List.getElem?_eq_some_iff.1 b).1;have c:(ys.take j).length=j:=by rw[aZ];omega
 rw[List.set_append_right _ _ (by omega),c,Nat.sub_self,List.replicate_succ,List.set_cons_zero,List.take_add_one,b,Option.toList_some,List.append_assoc];rfl
theorem lS {α:Type} {ys:List α} {z:α} {j k:Nat} (h:j+k=ys.length):(ys.take j++List.replicate k z).length=ys.length:=by
 rw[aY,aZ,cN];omega
theorem JX (ns:List Int) (x:Int) (v vx:Value) (w:World) (hv:WholeAt w v ns) (y:IntAt w vx x) (K:Nat) (G:∀n∈ns,nl n.natAbs<=K) (ar:nl x.natAbs<=K) (aj:2*K<=17592186044416) (hl:ns.length<=1099511627776):
  Calls Tryz.prog 158 #[v,vx] w fun e w'=>∃v',e= .returned v'∧WholeAt w' v' (aX aW (ns.map (·*x)))∧Below w.heap.size w w':=by
 obtain⟨A,c,rfl,hc⟩:=hv.form;obtain⟨D,t,C,u,rfl⟩:=y.form;have g:Bx (w.alloc (.cells #[.bool D,.slice t C u] 59)) (w.heap.size) [.bool D,.slice t C u] 59:=Bx.newAt w [.bool D,.slice t C u] 59 (w.heap.size) (by simp);have f:Below w.heap.size w (w.alloc (.cells #[.bool D,.slice t C u] 59)):=(aH _ _).alloc (by simp) _;go_enter Tryz.func158,Tryz.ntmps158;go_wp2_with (at_make;refine gJ rfl rfl 59 _ 2 32 Tryz.underlying56 mN rfl (by decide) ns.length rfl rfl rfl rfl (by omega) (by omega) ?_;intro w1 am V H);have N:OwnW w1 (w.heap.size+1) (List.replicate ns.length 0):=by
  have:=OwnW.made V;rw[World.size_alloc] at this;exact this
 replace g:=g.below H;replace f:=aC f H;clear V am H;have ab:(ns.map (·*x)).length=ns.length:=bK _;have q:=aB ab;clear ab;go_loopg [13] ns.length (fun k i wr=>∃j,Hid (j+k=ns.length)∧i= .int .i64 j∧OwnW wr (w.heap.size+1) ((ns.map (·*x)).take j++List.replicate k 0)∧Bx wr w.heap.size [.bool D,.slice t C u] 59∧Below w.heap.size w wr)
 case atStart=>exact⟨0,by unfold Hid;omega,rfl,by simpa using N,g,f⟩
 case round=>
  clear N g f;obtain⟨j,r,rfl,R,g,f⟩:=hrel;have av:(0:Int)<=(j:Int):=by omega
  cases gk with
  |zero=>
   have hj:j=ns.length:=r.out;subst hj;rw[List.replicate_zero,List.append_nil,cA (by rw[q.out];exact aE)] at R;have J:=R.whole ns.length (by rw[q.out];exact aE);rw[q.out] at J;have Y:WholeAt wr (.slice (some ⟨w.heap.size+1,0,none⟩) (ns.map (·*x)).length ns.length) (ns.map (·*x)):=by rw[q.out];exact J
   have W:=pV (ns.map (·*x)) _ _ wr Y (2*K) (fun n hn=>by
    obtain⟨m,hm,rfl⟩:=List.mem_map.1 hn;rw[Int.natAbs_mul];have:=dJ m.natAbs x.natAbs;have:=G m hm;omega) aj (by rw[q.out];exact hl)
   rw[q.out] at W;clear q G J Y;go_wp2_with fail;refine W.mono ?_;rintro e2 w2 ⟨rfl,F,E⟩;go_wp2;go_ret;exact⟨_,rfl,F,aC f E⟩
  |succ k=>
   obtain⟨n,hn⟩:∃n,ns[j]? =some n:=⟨_,aL (by have:=r.out;omega)⟩;obtain⟨b,s,B,l,d,rfl,au,g0,g1,I⟩:=(hv.below f).at_ hn;have ax:=G n (cH hn);have aw:(j:Int)<(ns.length:Int):=by have:=r.out;omega
   have Z:(ns.map (·*x))[j]? =some (n*x):=by rw[List.getElem?_map,hn];rfl
   have S:=lS (ys:=ns.map (·*x)) (z:=(0:Int)) (j:=j) (k:=k+1) (by rw[q.out];exact r.out);have T:=lR (z:=(0:Int)) (k:=k) Z;have M:=aB S;have ai:=aB T;have HN:=aB hn;clear Z S T hn;replace y:=y.below f;have ad:∀h:Obj,(wr.alloc h).cell? ⟨w.heap.size,0,none⟩=some (.bool D):=fun h=>(g.alloc h).cell 0 rfl;have af:∀h:Obj,(wr.alloc h).frozen? ⟨w.heap.size,0,none⟩=false:=fun h=>(g.alloc h).free 0;have ae:∀h:Obj,(wr.alloc h).cell? ⟨w.heap.size,1,none⟩=some (.slice t C u):=fun h=>(g.alloc h).cell 1 rfl;have ag:∀h:Obj,(wr.alloc h).frozen? ⟨w.heap.size,1,none⟩=false:=fun h=>(g.alloc h).free 1;go_wp2_with fail;replace R:=R.alloc (.cells #[.bool s,.slice B l d] 59);replace I:=I.keep (Keep.alloc wr (.cells #[.bool s,.slice B l d] 59));replace y:=y.keep (Keep.alloc wr (.cells #[.bool s,.slice B l d] 59));have ah:=g.lt;have al:=f.size;replace g:=g.alloc (.cells #[.bool s,.slice B l d] 59);have X:=Bx.newAt wr [.bool s,.slice B l d] 59 (wr.heap.size) (by simp);replace f:=f.alloc f.size (.cells #[.bool s,.slice B l d] 59);replace hk:=Keep.alloc wr (.cells #[.bool s,.slice B l d] 59);generalize wr.alloc (.cells #[.bool s,.slice B l d] 59)=W1 at *;replace an:=g.cell 0 rfl;replace ao:=g.cell 1 rfl;replace ap:=X.cell 0 rfl;replace aq:=X.cell 1 rfl;clear ad ae af ag g0 g1 ah al;refine(iN n x _ _ _ I y (by omega)).mono ?_;rintro e2 w2 ⟨v2,rfl,F,E⟩;obtain⟨s2,L,k2,O,rfl⟩:=F.form;replace R:=R.below E;replace g:=g.below E;replace f:=aC f E;obtain⟨s',B',l',d',q0,q1, -⟩:=R.at_ (i:=j) (aL (by rw[M.out,q.out];have:=r.out;omega));have f0:=R.free (j*2);have f1:=R.free (j*2+1);go_wp2_with fail;have U:=R.put (i:=j) (by rw[M.out,q.out];have:=r.out;omega) F;rw[ai.out] at U;have ac:=(g.far (j*2) (.bool s2) (show w.heap.size+1≠w.heap.size by omega)).far (j*2+1) (.slice L k2 O) (show w.heap.size+1≠w.heap.size by omega);have ak:=(f.setCell (p:=⟨w.heap.size+1,j*2,none⟩) (by simp) (.bool s2)).setCell (p:=⟨w.heap.size+1,j*2+1,none⟩) (by simp) (.slice L k2 O);go_roundg k
   case rel=>exact⟨j+1,by have:=r.out;unfold Hid;omega,by go_num,U.1,ac,ak⟩
   case measure=>omega
def U (ds:List Nat):List Value:=ds.map (fun d:Nat=>Value.int .u32 (d:Int))
theorem IT (ds:List Nat):(U ds).length=ds.length:=bK _
theorem iL {ds:List Nat} {i d:Nat} (h:ds[i]? =some d):(U ds)[i]? =some (.int .u32 (d:Int)):=by unfold U;rw[List.getElem?_map,h];rfl
theorem IU (ds:List Nat) (i x:Nat):(U ds).set i (.int .u32 (x:Int))=U (ds.set i x):=by unfold U;rw[List.map_set]
def Ds (w:World) (v:Value) (ds:List Nat):Prop:=∃A c,v= .slice A ds.length c∧ds.length<=c∧Dg ds∧(ds=[]∨∃b,A=some ⟨b,0,none⟩∧b<w.heap.size∧∀(i d:Nat),ds[i]? =some d->w.cell? ⟨b,i,none⟩=some (.int .u32 (d:Int)))
def Mg (w:World) (v:Value) (n:Nat):Prop:=∃ds,Ds w v ds∧aO ds∧nv ds=n
section
variable {w w':World} {v:Value} {ds:List Nat}
theorem Ds.form (h:Ds w v ds):∃A c,v= .slice A ds.length c∧ds.length<=c:=by
 obtain⟨A,c,hv,a,_⟩:=h;exact⟨A,c,hv,a⟩
theorem Ds.dg (h:Ds w v ds):Dg ds:=by
 obtain⟨A,c,hv,d,a,_⟩:=h;exact a
theorem Ds.cap {A:Option Addr} {l c:Nat} (h:Ds w (.slice A l c) ds):ds.length<=c:=by
 obtain⟨A,c,e,a,_⟩:=h;simp only[Value.slice.injEq] at e;omega
theorem Ds.nil (w:World) (A:Option Addr) (c:Nat):Ds w (.slice A 0 c) []:=⟨A,c,rfl,Nat.zero_le _,(fun d a=>by cases a),.inl rfl⟩
theorem Ds.below (h:Ds w v ds) (a:Below w.heap.size w w'):Ds w' v ds:=by
 obtain⟨A,c,hv,j,k,h⟩:=h;refine⟨A,c,hv,j,k,?_⟩;rcases h with h|⟨b,e,f,g⟩
 ·exact .inl h
 ·exact .inr ⟨b,e,aU f a.size,fun i d l=>(a.cell (p:=⟨b,i,none⟩) f).trans (g i d l)⟩
theorem Ds.at_ {A:Option Addr} {l c i d:Nat} (h:Ds w (.slice A l c) ds) (hi:ds[i]? =some d):∃b,A=some ⟨b,0,none⟩∧b<w.heap.size∧w.cell? ⟨b,i,none⟩=some (.int .u32 (d:Int)):=by
 obtain⟨g,j,e,k,m,h⟩:=h;simp only[Value.slice.injEq] at e;obtain⟨rfl,rfl,rfl⟩:=e;rcases h with h|⟨b,e,f,a⟩
 ·rw[h] at hi;simp at hi
 ·exact⟨b,e,f,a i d hi⟩
theorem Ds.cut {A:Option Addr} {l c:Nat} (h:Ds w (.slice A l c) ds) (k:Nat) (j:k<=ds.length):Ds w (.slice A k c) (ds.take k):=by
 obtain⟨n,o,e,p,g,h⟩:=h;simp only[Value.slice.injEq] at e;obtain⟨rfl,rfl,rfl⟩:=e;refine⟨A,c,by rw[aZ,Nat.min_eq_left j],by rw[aZ];omega,g.take k,?_⟩;rcases h with h|⟨b,e,m,f⟩
 ·left;rw[h];simp
 ·refine .inr ⟨b,e,m,fun i d a=>f i d ?_⟩;rw[List.getElem?_take] at a;split at a
  ·exact a
  ·cases a
theorem Ds.own {b:Nat} {es:List Nat} (h:Bx w b (U (ds++es)) 211) (f:Dg ds) (c:Nat) (e:ds.length<=c):Ds w (.slice (some ⟨b,0,none⟩) ds.length c) ds:=
 ⟨_,c,rfl,e,f,.inr ⟨b,rfl,h.lt,fun i d a=>h.cell i (iL (by rw[f8 (List.getElem?_eq_some_iff.1 a).1];exact a))⟩⟩
theorem Mg.below {n:Nat} (h:Mg w v n) (e:Below w.heap.size w w'):Mg w' v n:=by
 obtain⟨ds,a,c,d⟩:=h;exact⟨ds,a.below e,c,d⟩
theorem Mg.drew {n:Nat} (h:Mg w v n):Mg w.drew v n:=h.below (aH _ _).drew
theorem Mg.form {n:Nat} (h:Mg w v n):∃A l c,v= .slice A l c:=by
 obtain⟨ds,a,d,e⟩:=h;obtain⟨A,c,hv,_⟩:=a.form;exact⟨A,_,c,hv⟩
theorem Mg.zero (w:World) (A:Option Addr) (c:Nat):Mg w (.slice A 0 c) 0:=⟨[],Ds.nil w A c,(fun a h=>by simp at h),rfl⟩
end
def vA (w:World) (n:Nat) (e:Ending) (w':World):Prop:=∃v,e= .returned v∧Mg w' v n∧Below w.heap.size w w'
theorem mJ:(Tryz.prog.info? 211).map (fun i=>(i.zero,i.size,i.bytes))=some (some (.int .u32 0),1,4):=by kernel_rfl
theorem Bx.zeros {w:World} {b n:Nat} (h:Rw w b 1 (List.replicate n [Value.int .u32 0]) 211):Bx w b (U (List.replicate n 0)) 211:=by
 have e:(List.replicate n [Value.int .u32 0]).flatten=U (List.replicate n 0):=by
  unfold U;clear h;induction n with
  |zero=>rfl
  |succ n a=>rw[List.replicate_succ,List.flatten_cons,a];rfl
 have:=h.1;rwa [e] at this
theorem Bx.mid {w:World} {b i x:Nat} {P Q:List Nat} (h:Bx w b (U (P++x :: Q)) 211) (a:P.length=i):w.cell? ⟨b,i,none⟩=some (.int .u32 (x:Int)):=h.cell i (iL (vD a))
theorem Bx.next {w:World} {b i x y:Nat} {P Q:List Nat} {v:Value} (h:Bx w b (U (P++x :: Q)) 211) (a:P.length=i) (hv:v= .int .u32 (y:Int)):Bx (w.setCell ⟨b,i,none⟩ v) b (U ((P++[y])++Q)) 211:=by
 subst hv;have:=h.set i (.int .u32 (y:Int));rwa [IU,IX a] at this
theorem n8 {a:Int} {b:Nat} (h:a=(b:Int)):Value.int .u32 a= .int .u32 (b:Int):=by rw[h]
theorem rR {a:Int} {b:Nat} (h:a=(b:Int)):Value.int .u64 a= .int .u64 (b:Int):=by rw[h]
theorem vB {x s t:Nat} (f:x<4294967296) (e:s+t<=4294967296):∃a D r c:Nat,IntKind.u64.wrap ((x:Int)-s)=a∧IntKind.u64.wrap ((a:Int)-t)=D∧(D:Int)%4294967296=r∧bits .and .u64 ((D:Int)/4294967296) 1=c∧c<=1∧r<4294967296∧a<=18446744073709551615∧D<=18446744073709551615∧x+aD*c=r+s+t:=by
 have d:∀n:Int,IntKind.u64.wrap n=n%18446744073709551616:=fun n=>by simp[IntKind.wrap,IntKind.bits,IntKind.signed]
 unfold aD;rw[d];rcases Nat.lt_or_ge x (s+t) with h|h
 ·refine⟨(((x:Int)-s)%18446744073709551616).toNat,18446744073709551616+x-s-t,4294967296+x-s-t,1,by omega,by rw[d];omega,by omega,?_,by omega,by omega,by omega,by omega,by omega⟩;rw[show((18446744073709551616+x-s-t:Nat):Int)/4294967296=4294967295 by omega];decide
 ·refine⟨x-s,x-s-t,x-s-t,0,by omega,by rw[d];omega,by omega,?_,by omega,by omega,by omega,by omega,by omega⟩;rw[show((x-s-t:Nat):Int)/4294967296=0 by omega];decide
theorem Bx.prev {w:World} {b k y:Nat} {Q:List Nat} {v:Value} (h:Bx w b (U (List.replicate (k+1) 0++Q)) 211) (hv:v= .int .u32 (y:Int)):Bx (w.setCell ⟨b,k,none⟩ v) b (U (List.replicate k 0++y :: Q)) 211:=by
 rw[List.replicate_succ',List.append_assoc] at h;have:=h.next (P:=List.replicate k 0) cN hv;rwa [List.append_assoc] at this
theorem Bx.last {w:World} {b k:Nat} {Q:List Nat} (h:Bx w b (U (List.replicate (k+1) 0++Q)) 211):w.cell? ⟨b,k,none⟩=some (.int .u32 ((0:Nat):Int)):=by
 rw[List.replicate_succ',List.append_assoc] at h;exact h.mid cN
theorem vC (r x:Nat) (c:r<4294967296) (a:x<4294967296):bits .or .u64 ((r:Int)*4294967296) (x:Int)=((r*aD+x:Nat):Int):=by
 rw[u64_or _ _ (by omega) (by omega) (by omega) (by omega),show((r:Int)*4294967296).toNat=2^32*r by omega,Int.toNat_natCast,vK a,dD];rfl
theorem Ds.src {w:World} {A:Option Addr} {l c:Nat} {ds:List Nat} (h:Ds w (.slice A l c) ds):Src w A (U ds):=by
 obtain⟨j,k,e,m,f,h⟩:=h;simp only[Value.slice.injEq] at e;obtain⟨rfl,rfl,rfl⟩:=e;rcases h with h|⟨b,e,n,g⟩
 ·exact .inl (by rw[h];rfl)
 ·refine .inr ⟨b,0,e,fun i u a=> ?_⟩;unfold U at a;rw[List.getElem?_map] at a;cases f:ds[i]? with
  |none=>rw[f] at a;cases a
  |some d=>
   rw[f] at a;injection a with a;rw[aS,g i d f,<-a]
theorem Ds.row {w:World} {B n:Nat} {v:Value} {ds:List Nat} (h:w.ownsRow B 211 1 v n (U ds)) (hn:ds.length=n) (k:Dg ds):Ds w v ds:=by
 subst hn;rcases h.2 with ⟨rfl,j⟩|⟨g,e,f,rfl,o,c,hn,_,p,m⟩
 ·obtain rfl:=bM j;exact Ds.nil _ _ _
 ·refine⟨_,e,rfl,hn,k,.inr ⟨g,rfl,(Array.getElem?_eq_some_iff.1 c).1,fun i d l=> ?_⟩⟩;rw[cell_of_row w g i f _ (0,0) c,<-Array.getElem?_toList];have a:=iL l;rw[<-m,List.getElem?_take] at a;split at a
  ·exact a
  ·cases a
theorem IV (ds:List Nat):∀u∈U ds,u.oneCell'=true:=fun u a=>by
 obtain⟨d,_,rfl⟩:=List.mem_map.1 a;rfl
theorem IW {t c b:Nat} (g:t<4294967296) (f:c<=4294967296) (e:b<=1):∃d D:Nat,IntKind.u64.wrap ((t:Int)-c)=d∧IntKind.u64.wrap ((d:Int)-b)=D∧d<=18446744073709551615∧(t=c+b->D=0)∧(c+b=t+1->D=18446744073709551615):=by
 have a:∀n:Int,IntKind.u64.wrap n=n%18446744073709551616:=fun n=>by simp[IntKind.wrap,IntKind.bits,IntKind.signed]
 refine⟨(((t:Int)-c)%18446744073709551616).toNat,(((t:Int)-c-b)%18446744073709551616).toNat,by rw[a];omega,by rw[a];omega,by omega,by omega,by omega⟩
theorem iW {ds:List Nat} {n:Nat} (g:aO ds) (hn:nv ds=n):ds.length<=2*nl n:=by
 by_cases c:ds=[]
 ·rw[c];exact Nat.zero_le _
 ·have d:=vJ g c;have e:=cJ n;have f:BN^nl n=aD^(2*nl n):=by rw[Nat.pow_mul];rfl
  rw[hn] at d;rw[f] at e;have:=(Nat.pow_lt_pow_iff_right (a:=aD) (by decide)).1 (Nat.lt_of_le_of_lt d e);omega
def KM (w w':World):Prop:=w.heap.size<=w'.heap.size∧∀p k x,w.cell? p=some (Value.int k x)->w'.cell? p=some (Value.int k x)
section
variable {w w' W:World} {b B:Nat} {t:TypeId} {cs:List Value}
theorem KM.trans {a b c:World} (h:KM a b) (k:KM b c):KM a c:=⟨aG h.1 k.1,fun p i x d=>k.2 p i x (h.2 p i x d)⟩
theorem KM.below (a:Below w.heap.size w w'):KM w w':=⟨a.size,fun p k x h=>(a.cell (block_lt_of_cell h)).trans h⟩
theorem Mg.keep {v:Value} {n:Nat} (h:Mg w v n) (a:KM w w'):Mg w' v n:=by
 obtain⟨ds,⟨A,c,hv,k,l,h⟩,f,g⟩:=h;refine⟨ds,⟨A,c,hv,k,l,?_⟩,f,g⟩;rcases h with h|⟨b,e,o,j⟩
 ·exact .inl h
 ·exact .inr ⟨b,e,aU o a.1,fun i d m=>a.2 _ _ _ (j i d m)⟩
theorem Bx.mut1 (h:Bx W b cs t) (n:Below B w W) (m:B<=b) (i:Nat) (v:Value) (hn:dN cs[i]? =true):
  ∃a,W.setCell ⟨b,i,none⟩ v=a∧Bx a b (cs.set i v) t∧Below B w a∧KM W a∧∀{g:Nat} {cs:List Value} {t:TypeId},Bx W g cs t->b≠g->Bx a g cs t:=by
 obtain⟨a,e,j,l, -,f⟩:=h.put1 n m i v hn;refine⟨a,e,j,l,?_,f⟩;subst e;refine⟨by simp,fun p k x d=> ?_⟩;rw[World.cell?_setCell_other _ _ _ _ ?_,d];rintro rfl;cases hc:cs[i]? with
 |none=>rw[hc] at hn;cases hn
 |some c=>
  rw[h.cell i hc] at d;injection d with d;rw[hc,d] at hn;cases hn
theorem Bx.mut2 (h:Bx W b cs t) (r:Below B w W) (i:B<=b) (c d:Value) {e f:Value} (s:cs=[e,f]) (hn:(dN (some e)&&dN (some f))=true):
  ∃a,(W.setCell ⟨b,0,none⟩ c).setCell ⟨b,1,none⟩ d=a∧Bx a b [c,d] t∧Below B w a∧KM W a∧∀{g:Nat} {cs:List Value} {t:TypeId},Bx W g cs t->b≠g->Bx a g cs t:=by
 subst s;simp only[Bool.and_eq_true] at hn;obtain⟨y,rfl,p,l,u,n⟩:=h.mut1 r i 0 c hn.1;obtain⟨z,rfl,q,m,x,o⟩:=p.mut1 l i 1 d hn.2;exact⟨_,rfl,q,m,u.trans x,fun k j=>o (n k j) j⟩
theorem Bx.mut4 (h:Bx W b cs t) (F:Below B w W) (c:B<=b) (e f i j:Value) {l m n o:Value} (G:cs=[l,m,n,o]) (hn:(dN (some l)&&(dN (some m)&&(dN (some n)&&dN (some o))))=true):
  ∃a,(((W.setCell ⟨b,0,none⟩ e).setCell ⟨b,1,none⟩ f).setCell ⟨b,2,none⟩ i).setCell ⟨b,3,none⟩ j=a∧Bx a b [e,f,i,j] t∧Below B w a∧KM W a∧∀{g:Nat} {cs:List Value} {t:TypeId},Bx W g cs t->b≠g->Bx a g cs t:=by
 subst G;simp only[Bool.and_eq_true] at hn;obtain⟨L,rfl,A,p,H,u⟩:=h.mut1 F c 0 e hn.1;obtain⟨M,rfl,C,q,I,x⟩:=A.mut1 p c 1 f hn.2.1;obtain⟨N,rfl,D,r,J,y⟩:=C.mut1 q c 2 i hn.2.2.1;obtain⟨O,rfl,E,s,K,z⟩:=D.mut1 r c 3 j hn.2.2.2;exact⟨_,rfl,E,s,((H.trans I).trans J).trans K,fun k d=>z (y (x (u k d) d) d) d⟩
end
theorem uZ (a:List Nat) (A:Option Addr) (c:Nat) (w:World) (hv:Ds w (.slice A a.length c) a) (u:a.length<=4398046511104):
  Calls Tryz.prog 182 #[.slice A a.length c] w fun e w'=>e= .returned (.slice A (aX aW a).length c)∧w=w':=by
 have t:a.length<=c:=hv.cap;go_enter Tryz.func182,Tryz.ntmps182;go_wp2_with fail;go_loopg [0] a.length (fun k s wr=>∃m,Hid (m=k)∧s= .slice A m c∧m<=a.length∧Hid (aX aW (a.take m)=aX aW a)∧w=wr)
 case atStart=>exact⟨a.length,rfl,rfl,aE,by unfold Hid;rw[List.take_length],rfl⟩
 case round=>
  obtain⟨m,j,rfl,o,h,rfl⟩:=hrel;cases gk with
  |zero=>
   obtain rfl:m=0:=j.out;have i:Hid (aX aW a=[]):=h.out.symm;go_wp2_with fail;go_ret;rw[i.out];exact⟨rfl,rfl⟩
  |succ k=>
   have p:m=k+1:=j.out;subst p;obtain⟨d,g⟩:∃d,a[k]? =some d:=⟨_,aL (by omega)⟩;obtain⟨b,rfl,r,q⟩:=hv.at_ g;have l:=aB (vM aW a g);have n:=aB (vN aW a g);have v:k+1<=c:=by omega
   clear g;by_cases f:d=0
   ·subst f;go_wp2_with fail;go_roundg k
    case rel=>exact⟨k,rfl,by go_num,by omega,by unfold Hid;rw[<-l.out rfl];exact h.out,rfl⟩
    case measure=>omega
   ·have x:((d:Int)==0)=false:=by simpa using f
    have i:Hid (aX aW a=a.take (k+1)):=by unfold Hid;rw[<-h.out];exact n.out (by simpa [aW] using f)
    clear f;go_wp2_with fail;go_ret;rw[i.out,aZ,Nat.min_eq_left o];exact⟨rfl,rfl⟩
theorem AT (a es:List Nat) (b n c:Nat) (w:World) (h:Bx w b (U (a++es)) 211) (g:Dg a) (hn:nv a=n) (f:a.length<=c) (j:a.length<=4398046511104):
  Calls Tryz.prog 182 #[.slice (some ⟨b,0,none⟩) a.length c] w fun e w'=>∃k c',e= .returned (.slice (some ⟨b,0,none⟩) k c')∧Mg w (.slice (some ⟨b,0,none⟩) k c') n∧w=w':=
 have d:=Ds.own h g c f
 (uZ a _ c w d j).mono fun e w' ⟨i,l⟩=>⟨_,_,i,⟨aX aW a,by
  have:=d.cut (aX aW a).length (mK _ _);rwa [<-B8] at this,iX a,by rw[B0];exact hn⟩,l⟩
theorem AU (a es:List Nat) (b n c:Nat) (w:World) (h:Bx w b (U (a++es)) 211) (f:Dg a) (hn:nv a=n) (d:a.length<=c) (i:a.length<=4398046511104):
  Calls Tryz.prog 182 #[.slice (some ⟨b,0,none⟩) a.length c] w fun e w'=>∃v,e= .returned v∧Mg w v n∧w=w':=
 (AT a es b n c w h f hn d i).mono fun e w' ⟨k,m,g,j,l⟩=>⟨_,g,j,l⟩
theorem mI (a:List Nat) (b n c:Nat) (w:World) (h:Bx w b (U a) 211) (f:Dg a) (hn:nv a=n) (d:a.length<=c) (g:a.length<=4398046511104):
  Calls Tryz.prog 182 #[.slice (some ⟨b,0,none⟩) a.length c] w fun e w'=>∃v,e= .returned v∧Mg w v n∧w=w':=AU a [] b n c w (by rw[List.append_nil];exact h) f hn d g
theorem AV (a b:Nat) (l m:Value) (w:World) (K:Mg w l a) (L:Mg w m b) (la:nl a<=1099511627776) (lb:nl b<=1099511627776):
  Calls Tryz.prog 190 #[l,m] w (vA w (a+b)):=by
 obtain⟨X,Y,u,z,E,F,lX,hl,hs,ac⟩:∃X Y u z,Ds w u X∧Ds w z Y∧X.length<=2199023255552∧Y.length<=X.length∧Hid (nv X+nv Y=a+b)∧(l=u∧m=z∨l=z∧m=u∧Y.length<X.length):=by
  obtain⟨G,g,tx,rfl⟩:=K;obtain⟨H,j,ty,rfl⟩:=L;have lx:=iW tx rfl;have ly:=iW ty rfl;rcases Nat.lt_or_ge G.length H.length with h|h
  ·exact⟨H,G,m,l,j,g,by omega,by omega,Nat.add_comm _ _,.inr ⟨rfl,rfl,h⟩⟩
  ·exact⟨G,H,l,m,g,j,by omega,h,rfl,.inl ⟨rfl,rfl⟩⟩
 obtain⟨A,c,rfl,hc⟩:=E.form;obtain⟨B,d,rfl,N⟩:=F.form;have T:=E.dg;have V:=F.dg;clear K L;rcases ac with ⟨rfl,rfl⟩|⟨rfl,rfl,h⟩
 all_goals (
  go_enter Tryz.func190,Tryz.ntmps190;go_wp2_with (at_make;refine gJ rfl rfl 211 _ 1 4 Tryz.underlying77 mJ rfl (by decide) (X.length+1) rfl rfl rfl rfl (by omega) (by omega) ?_;intro w1 ae Q M);have R:=Bx.zeros Q;clear Q ae;go_loopg [6,7] X.length (fun k s t wr=>∃(P:List Nat) (e i:Nat),Hid (i+k=X.length)∧s= .int .u64 (e:Int)∧t= .int .i64 (i:Int)∧e<=1∧Hid (P.length=i)∧Dg P∧Hid (nv P+aD^i*e=nv (X.take i)+nv (Y.take i))∧Bx wr w.heap.size (U (P++List.replicate (k+1) 0)) 211∧Below w.heap.size w wr)
  case atStart=>exact⟨[],0,0,by unfold Hid;omega,rfl,rfl,by omega,rfl,(fun d N=>by cases N),rfl,R,M⟩
  case round=>
   clear R M;obtain⟨P,e,i,o,rfl,rfl,he,f,D,J,R,n⟩:=hrel;generalize wr=wx at *;have ak:(0:Int)<=(i:Int):=by omega
   cases gk with
   |zero=>
    have hi:i=X.length:=o.out;subst hi;have g0:=R.mid f.out;have Z:=R.free X.length;have O:¬(X.length:Int)<(X.length:Int):=by omega
    go_wp2_with fail;have R2:=R.next (y:=e) f.out rfl;have ab:=gW (x:=e) f.out;have hv:nv (P++[e])=a+b:=by
     have:=J.out;rw[fY aE,fY hl] at this;rw[jJ e f.out,this,hs.out]
    have S:=fun W h=>mI (P++[e]) w.heap.size (a+b) (X.length+1) W h (D.snoc (by unfold aD;omega)) hv (by omega) (by omega);rw[List.replicate_zero,List.append_nil] at R2;simp only[ab] at S;refine(S _ R2).mono ?_;rintro e2 w2 ⟨v,rfl,hm,rfl⟩;go_wp2_with fail;go_ret;exact⟨_,rfl,hm,n.setCell (p:=⟨w.heap.size,X.length,none⟩) aE _⟩
   |succ k=>
    have O:i<X.length:=by have:=o.out;omega
    obtain⟨x,g⟩:∃x,X[i]? =some x:=⟨_,aL O⟩;obtain⟨bx,rfl,ai,gx⟩:=(E.below n).at_ g;have af:=T.get g;unfold aD at af;have g0:=R.mid f.out;have Z:=R.free i;have I:=fun q=>aB (vE f.out J.out (show e+x+q=e+(x+q) by omega));have C:=aB (gD X i);have r:=aB (gD Y i);rw[eO g] at C;clear g;by_cases ad:i<Y.length
    ·obtain⟨y,j⟩:∃y,Y[i]? =some y:=⟨_,aL ad⟩;obtain⟨ah,rfl,aj,gy⟩:=(F.below n).at_ j;have ag:=V.get j;unfold aD at ag;rw[eO j] at r;clear j;go_wp2_with fail;go_roundg k
     case rel=>exact⟨P++[(e+x+y)%aD],(e+x+y)/aD,i+1,by have:=o.out;unfold Hid;omega,rR (by unfold aD;omega),by go_num,by unfold aD;omega,gW f.out,D.snoc (Nat.mod_lt _ jY),by unfold Hid;rw[C.out,r.out,(I y).out,Nat.mul_add];omega,R.next f.out (n8 (by unfold aD;omega)),n.setCell (p:=⟨w.heap.size,i,none⟩) aE _⟩
     case measure=>omega
    ·rw[oJ (by omega)] at r;go_wp2_with fail;go_roundg k
     case rel=>exact⟨P++[(e+x)%aD],(e+x)/aD,i+1,by have:=o.out;unfold Hid;omega,rR (by unfold aD;omega),by go_num,by unfold aD;omega,gW f.out,D.snoc (Nat.mod_lt _ jY),by unfold Hid;rw[C.out,r.out];exact(I 0).out.trans (by rw[Nat.mul_add];omega),R.next f.out (n8 (by unfold aD;omega)),n.setCell (p:=⟨w.heap.size,i,none⟩) aE _⟩
     case measure=>omega)
theorem AW (a b:Nat) (J K:Value) (w:World) (P:Mg w J a) (Q:Mg w K b) (la:nl a<=1099511627776) (lb:nl b<=1099511627776):
  Calls Tryz.prog 204 #[J,K] w (dK w (bN a b)):=by
 obtain⟨X,p,H,rfl⟩:=P;obtain⟨Y,q,I,rfl⟩:=Q;have lX:=iW H rfl;have lY:=iW I rfl;have n:=p.dg;have o:=q.dg;obtain⟨A,c,rfl,hc⟩:=p.form;obtain⟨B,d,rfl,hd⟩:=q.form;rcases Nat.lt_trichotomy X.length Y.length with h|h|h
 ·have e:Hid (bN (nv X) (nv Y)= -1):=gT (by have:=rS n I h;omega);have G:((X.length:Int) != (Y.length:Int))=true:=by simp;omega
  go_enter Tryz.func204,Tryz.ntmps204;go_wp2_with fail;go_ret;exact⟨by rw[e.out];rfl,aH _ _⟩
 ·have G:((X.length:Int) != (Y.length:Int))=false:=by simp;omega
  have m:=aB h;clear h;go_enter Tryz.func204,Tryz.ntmps204;go_wp2_with fail;go_loopg [5] X.length (fun k s wr=>∃i:Int,Hid (i+1=k)∧s= .int .i64 i∧ -1<=i∧i<X.length∧Hid (X.drop k=Y.drop k)∧Below w.heap.size w wr)
  case atStart=>exact⟨(X.length:Int)-1,by unfold Hid;omega,rfl,by omega,by omega,by unfold Hid;rw[List.drop_of_length_le aE,List.drop_of_length_le (by rw[m.out];exact aE)],aH _ _⟩
  case round=>
   obtain⟨i,u,rfl,V,W,l,f⟩:=hrel;generalize wr=wx at *;cases gk with
   |zero=>
    have E:¬0<=i:=by have:=u.out;omega
    have e:Hid (bN (nv X) (nv Y)=0):=by
     have:X=Y:=l.out;rw[this];exact sQ _
    go_wp2_with fail;go_ret;exact⟨by rw[e.out];rfl,f⟩
   |succ k=>
    have E:i=(k:Int):=by have:=u.out;omega
    subst E;obtain⟨x,g⟩:∃x,X[k]? =some x:=⟨_,aL (by omega)⟩;have O:k<Y.length:=by have:=m.out;omega
    obtain⟨y,j⟩:∃y,Y[k]? =some y:=⟨_,aL O⟩;obtain⟨R,rfl,ab,T⟩:=(p.below f).at_ g;obtain⟨S,rfl,ac,U⟩:=(q.below f).at_ j;have F:=fun h:x<y=>B7 n o g j m.out l.out h;have D:=fun h:y<x=>B7 o n j g m.out.symm l.out.symm h;have C:x=y->X.drop k=Y.drop k:=fun h=>by
     have v:=(List.getElem?_eq_some_iff.1 g);have z:=(List.getElem?_eq_some_iff.1 j);rw[List.drop_eq_getElem_cons v.1,List.drop_eq_getElem_cons z.1,l.out,v.2,z.2,h]
    have N:=aB F;have M:=aB D;have t:=aB C;clear F D C g j;rcases Nat.lt_trichotomy x y with h|h|h
    ·have r:((x:Int) != (y:Int))=true:=by simp;omega
     have e:Hid (bN (nv X) (nv Y)= -1):=gT (by have:=N.out h;omega);go_wp2;go_quiet (fail);go_wp2;go_quiet (fail);go_wp2;go_ret;exact⟨by rw[e.out];rfl,dH (dH f _) _⟩
    ·have r:((x:Int) != (y:Int))=false:=by simp;omega
     have L:=aB (t.out h);clear t;subst h;go_wp2;go_quiet (fail);go_wp2;go_roundg k
     case rel=>exact⟨(k:Int)-1,by unfold Hid;omega,by go_num,by omega,by omega,L,dH f _⟩
     case measure=>omega
    ·have r:((x:Int) != (y:Int))=true:=by simp;omega
     have e:Hid (bN (nv X) (nv Y)=1):=jQ (by have:=M.out h;omega);have Z:¬(x:Int)<(y:Int):=by omega
     go_wp2;go_quiet (fail);go_wp2;go_quiet (fail);go_wp2;go_ret;exact⟨by rw[e.out];rfl,dH (dH f _) _⟩
 ·have e:Hid (bN (nv X) (nv Y)=1):=jQ (by have:=rS o H h;omega);have G:((X.length:Int) != (Y.length:Int))=true:=by simp;omega
  have r:¬(X.length:Int)<(Y.length:Int):=by omega
  go_enter Tryz.func204,Tryz.ntmps204;go_wp2_with fail;go_ret;exact⟨by rw[e.out];rfl,aH _ _⟩
theorem AX (a b:Nat) (va vb:Value) (w:World) (ha:Mg w va a) (ac:Mg w vb b) (la:nl a<=1099511627776) (lb:nl b<=1099511627776) (O:b<=a):
  Calls Tryz.prog 205 #[va,vb] w (vA w (a-b)):=by
 obtain⟨X,I,Z,rfl⟩:=ha;obtain⟨Y,J,K,rfl⟩:=ac;have lX:=iW Z rfl;have lY:=iW K rfl;have N:=I.dg;have dY:=J.dg;have hl:Y.length<=X.length:=by
  rcases Nat.lt_or_ge X.length Y.length with h|h
  ·have:=rS N K h;omega
  ·exact h
 have ab:=aB O;obtain⟨A,c,rfl,hc⟩:=I.form;obtain⟨B,d,rfl,S⟩:=J.form;clear Z K O;go_enter Tryz.func205,Tryz.ntmps205;go_wp2_with (at_make;refine gJ rfl rfl 211 _ 1 4 Tryz.underlying77 mJ rfl (by decide) X.length rfl rfl rfl rfl (by omega) (by omega) ?_;intro w1 ae V Q);have R:=Bx.zeros V;clear V ae;go_loopg [6,7] X.length (fun k s t wr=>∃(P:List Nat) (e i:Nat),Hid (i+k=X.length)∧s= .int .u64 (e:Int)∧t= .int .i64 (i:Int)∧e<=1∧Hid (P.length=i)∧Dg P∧Hid (nv (X.take i)+aD^i*e=nv P+nv (Y.take i))∧Bx wr w.heap.size (U (P++List.replicate k 0)) 211∧Below w.heap.size w wr)
 case atStart=>exact⟨[],0,0,by unfold Hid;omega,rfl,rfl,by omega,rfl,(fun d S=>by cases S),rfl,R,Q⟩
 case round=>
  clear R Q;obtain⟨P,e,i,j,rfl,rfl,he,f,m,C,R,g⟩:=hrel;generalize wr=wx at *;have aj:(0:Int)<=(i:Int):=by omega
  cases gk with
  |zero=>
   have hi:i=X.length:=j.out;subst hi;have T:¬(X.length:Int)<(X.length:Int):=by omega
   rw[List.replicate_zero,List.append_nil] at R;have hv:nv P=nv X-nv Y:=by
    have F:=C.out;have n:=ab.out;have G:=kW m;rw[f.out] at G;rw[fY aE,fY hl] at F;rcases(show e=0∨e=1 by omega) with rfl|rfl
    ·omega
    ·omega
   have W:=mI P w.heap.size _ X.length wx R m hv (by rw[f.out];exact aE) (by rw[f.out];omega);rw[f.out] at W;go_wp2_with fail;refine W.mono ?_;rintro e2 w2 ⟨v,rfl,hm,rfl⟩;go_wp2_with fail;go_ret;exact⟨_,rfl,hm,g⟩
  |succ k=>
   have T:i<X.length:=by have:=j.out;omega
   obtain⟨x,o⟩:∃x,X[i]? =some x:=⟨_,aL T⟩;obtain⟨bx,rfl,ah,gx⟩:=(I.below g).at_ o;have L:=N.get o;unfold aD at L;have g0:=R.mid f.out;have f0:=R.free i;have E:=aB (gD X i);have l:=aB (gD Y i);rw[eO o] at E;clear o;by_cases ad:i<Y.length
   ·obtain⟨y,u⟩:∃y,Y[i]? =some y:=⟨_,aL ad⟩;obtain⟨ag,rfl,ai,gy⟩:=(J.below g).at_ u;have af:=dY.get u;unfold aD at af;rw[eO u] at l;clear u;obtain⟨M,D,r,q,F,n,G,h4,h5,h6,h9,h7,H⟩:=vB (s:=e) (t:=y) L (by omega);have z:=aB (vF (c:=q) f.out C.out (show x+aD*q=r+y+e by omega));clear H;go_wp2_with fail;go_roundg k
    case rel=>exact⟨P++[r],q,i+1,by have:=j.out;unfold Hid;omega,rfl,by go_num,by omega,gW f.out,m.snoc (by unfold aD;omega),by unfold Hid;rw[E.out,l.out];exact z.out,R.next f.out rfl,g.setCell (p:=⟨w.heap.size,i,none⟩) aE _⟩
    case measure=>omega
   ·rw[oJ (by omega)] at l;obtain⟨M,D,r,q,F,n,G,h4,h5,h6,h9,h7,H⟩:=vB (s:=e) (t:=0) L (by omega);have z:=aB (vF (c:=q) (p:=0) f.out C.out (show x+aD*q=r+0+e by omega));rw[IntWalk.u64_in _ (by omega)] at n;obtain rfl:D=M:=by omega
    clear H n;go_wp2_with fail;go_roundg k
    case rel=>exact⟨P++[r],q,i+1,by have:=j.out;unfold Hid;omega,rfl,by go_num,by omega,gW f.out,m.snoc (by unfold aD;omega),by unfold Hid;rw[E.out,l.out];exact z.out,R.next f.out rfl,g.setCell (p:=⟨w.heap.size,i,none⟩) aE _⟩
    case measure=>omega
def AN (w:World) (a d:Nat) (e:Ending) (w':World):Prop:=∃v,e= .returned (.tuple #[v,.int .u32 ((a%d:Nat):Int)])∧Mg w' v (a/d)∧(∀g,v.ownBlock=some g->w.heap.size<=g∧g<w'.heap.size)∧Below w.heap.size w w'
theorem AO (a d:Nat) (M:Value) (w:World) (Y:Mg w M a) (la:nl a<=1099511627776) (h:0<d) (ae:d<4294967296):
  Calls Tryz.prog 177 #[M,.int .u32 (d:Int)] w (AN w a d):=by
 obtain⟨X,j,L,rfl⟩:=Y;have lX:=iW L rfl;have W:=j.dg;obtain⟨A,c,rfl,hc⟩:=j.form;clear L;go_enter Tryz.func177,Tryz.ntmps177;go_wp2_with (at_make;refine gJ rfl rfl 211 _ 1 4 Tryz.underlying77 mJ rfl (by decide) X.length rfl rfl rfl rfl (by omega) (by omega) ?_;intro w1 ad H E);have R:=Bx.zeros H;clear H ad;go_loopg [7,8] X.length (fun k s t wr=>∃(Q:List Nat) (r:Nat) (i:Int),Hid (i+1=k)∧s= .int .u64 (r:Int)∧t= .int .i64 i∧ -1<=i∧i<X.length∧r<d∧Hid (Q.length+k=X.length)∧Dg Q∧Hid (d*nv Q+r=nv (X.drop k))∧Bx wr w.heap.size (U (List.replicate k 0++Q)) 211∧Below w.heap.size w wr)
 case atStart=>exact⟨[],0,(X.length:Int)-1,by unfold Hid;omega,rfl,rfl,by omega,by omega,h,by unfold Hid;simp,(fun d b=>by cases b),by unfold Hid;rw[List.drop_length];rfl,by rw[List.append_nil];exact R,E⟩
 case round=>
  clear R E;obtain⟨Q,r,i,u,rfl,rfl,h1,h2,n,v,B,y,R,l⟩:=hrel;generalize wr=wx at *;cases gk with
  |zero=>
   have F:¬0<=i:=by have:=u.out;omega
   have G:Q.length=X.length:=v.out;rw[List.replicate_zero,List.nil_append] at R;have hv:d*nv Q+r=nv X:=y.out;have e:nv X%d=r:=by rw[<-hv,Nat.mul_add_mod,Nat.mod_eq_of_lt n]
   have b:nv Q=nv X/d:=by rw[<-hv,Nat.mul_add_div h,Nat.div_eq_of_lt n,Nat.add_zero]
   have K:=AT Q [] w.heap.size _ X.length wx (by rw[List.append_nil];exact R) B b (by omega) (by omega);rw[G] at K;have O:=aB e;clear G hv e b;go_wp2_with fail;refine K.mono ?_;rintro C w2 ⟨k2,c2,rfl,e,rfl⟩;go_wp2_with fail;go_ret2;exact⟨_,by rw[O.out];rfl,e,fun g hg=>by have:=R.lt;simp[Value.ownBlock] at hg;omega,l⟩
  |succ k=>
   have F:i=(k:Int):=by have:=u.out;omega
   subst F;obtain⟨x,f⟩:∃x,X[k]? =some x:=⟨_,aL (by omega)⟩;obtain⟨bx,rfl,af,gx⟩:=(j.below l).at_ f;have N:=W.get f;unfold aD at N;have g0:=R.last;have f0:=R.free k;have ag:=vC r x (by omega) N;have V:=aB (vI f);clear f;have I:r*aD+x<d*4294967296:=by
    have:(r+1)*4294967296<=d*4294967296:=cZ _ n;unfold aD;omega
   have ac:d*4294967296<=4294967295*4294967296:=cZ _ (by omega);generalize D:r*aD+x=S at *;have P:=aB D;have Z:S/d<4294967296:=Nat.div_lt_of_lt_mul I;have ab:S%d<d:=Nat.mod_lt _ h;have e1:((S:Int))/(d:Int)=((S/d:Nat):Int):=(Int.natCast_ediv S d).symm;have C:((S:Int))%(d:Int)=((S%d:Nat):Int):=(Int.natCast_emod S d).symm;have J:d*nv (S/d :: Q)+S%d=nv (X.drop k):=by
    rw[V.out,<-y.out];exact J0 (by rw[dD,Nat.div_add_mod,P.out])
   have T:=aB J;have ah:S<=18446744073709551615:=by omega
   clear J D I ac;generalize S/d=q at *;generalize S%d=m at *;go_wp2_with fail;go_roundg k
   case rel=>exact⟨q :: Q,m,(k:Int)-1,by unfold Hid;omega,by rw[C],by go_num,by omega,by omega,ab,by have:=v.out;unfold Hid;rw[List.length_cons];omega,(fun z o=>by
    rcases List.mem_cons.1 o with rfl|o
    ·exact Z
    ·exact B z o),T,R.prev rfl,l.setCell (p:=⟨w.heap.size,k,none⟩) aE _⟩
   case measure=>omega
theorem IQ {s x z:Nat} (k:s<32) (e:x<4294967296) (g:z<2^s):∃V L H:Nat,IntKind.u64.wrap ((x:Int)*2^s)=V∧V<=18446744073709551615∧bits .or .u32 (z:Int) ((V:Int)%4294967296)=L∧(V:Int)/4294967296=H∧L<4294967296∧H<2^s∧H<4294967296∧L+aD*H=z+2^s*x:=by
 have c:x*2^s<4294967296*2^s:=Nat.mul_lt_mul_of_pos_right e (Nat.pow_pos (by decide));have h:2^s<=2^31:=cE (by decide) (by omega);have a:(4294967296:Nat)=2^s*2^(32-s):=by rw[<-Nat.pow_add,show s+(32-s)=32 by omega]
 have b:x*2^s%4294967296=2^s*(x%2^(32-s)):=by conv=>lhs;rw[a,dD x,Nat.mul_mod_mul_left]
 have f:x%2^(32-s)+1<=2^(32-s):=Nat.mod_lt _ (Nat.pow_pos (by decide));have d:2^s*(x%2^(32-s)+1)<=4294967296:=by rw[a];exact dL _ f
 have j:=Nat.mod_lt (x*2^s) (show 4294967296>0 by decide);have i:=Nat.mod_add_div (x*2^s) 4294967296;refine⟨x*2^s,z+x*2^s%4294967296,x*2^s/4294967296,?_,by omega,?_,(Int.natCast_ediv _ _).symm,by rw[b];rw[Nat.mul_add] at d;omega,Nat.div_lt_of_lt_mul c,by omega,by unfold aD;rw[dD (2^s)];omega⟩
 ·rw[show((x:Int)*2^s)=((x*2^s:Nat):Int) by rw[Int.natCast_mul,Int.natCast_pow];rfl];exact IntWalk.u64_in _ (by omega)
 ·rw[show((x*2^s:Nat):Int)%4294967296=((x*2^s%4294967296:Nat):Int) from(Int.natCast_emod _ _).symm,u32_or _ _ (by omega) (by omega) (by omega) (by omega),Int.toNat_natCast,Int.toNat_natCast,b,Nat.or_comm,vK g,Nat.add_comm]
theorem IR {s x y:Nat} (i:s<32) (e:x<4294967296) (j:y<4294967296):∃V L:Nat,IntKind.u64.wrap (32-(s:Int))=((32-s:Nat):Int)∧IntKind.u64.wrap ((y:Int)*2^(32-s))=V∧IntKind.u32.wrap (V:Int)=L∧bits .or .u32 ((x/2^s:Nat):Int) (L:Int)=((x/2^s+L:Nat):Int)∧L=2^(32-s)*(y%2^s)∧x/2^s+L<4294967296:=by
 have a:(4294967296:Nat)=2^(32-s)*2^s:=by rw[<-Nat.pow_add,show 32-s+s=32 by omega]
 have d:0<2^s:=Nat.pow_pos (by decide);have h:y*2^(32-s)<=4294967295*4294967296:=Nat.mul_le_mul (by omega) (cE (n:=2) (by decide) (show 32-s<=32 by omega));have c:y*2^(32-s)%4294967296=2^(32-s)*(y%2^s):=by conv=>lhs;rw[a,dD y,Nat.mul_mod_mul_left]
 have f:x/2^s<2^(32-s):=Nat.div_lt_of_lt_mul (by rw[dD,<-a];exact e);have g:y%2^s+1<=2^s:=Nat.mod_lt _ d;have b:2^(32-s)*(y%2^s+1)<=4294967296:=by rw[a];exact dL _ g
 rw[Nat.mul_add,Nat.mul_one] at b;generalize x/2^s=k at *;refine⟨y*2^(32-s),2^(32-s)*(y%2^s),?_,?_,?_,?_,rfl,by omega⟩
 ·rw[show(32:Int)-s=((32-s:Nat):Int) by omega];exact IntWalk.u64_in _ (by omega)
 ·rw[show((y:Int)*2^(32-s))=((y*2^(32-s):Nat):Int) by rw[Int.natCast_mul,Int.natCast_pow];rfl];exact IntWalk.u64_in _ (by omega)
 ·rw[IntKind.wrap_u32,<-c];exact(Int.natCast_emod _ _).symm
 ·rw[u32_or _ _ (by omega) (by omega) (by omega) (by omega),Int.toNat_natCast,Int.toNat_natCast,Nat.or_comm,vK f,Nat.add_comm]
def IS (w:World) (X:List Nat) (s:Nat) (e:Ending) (w':World):Prop:=e= .returned (.slice (some ⟨w.heap.size,0,none⟩) (X.length+1) (X.length+1))∧∃Z:List Nat,Bx w' w.heap.size (U Z) 211∧Z.length=X.length+1∧Dg Z∧nv Z=2^s*nv X∧Below w.heap.size w w'
theorem AQ (X:List Nat) (D:Value) (s:Nat) (w:World) (g:Ds w D X) (lX:X.length<=2199023255552) (N:s<32):
  Calls Tryz.prog 211 #[D,.int .u64 (s:Int)] w (IS w X s):=by
 have I:=g.dg;obtain⟨A,c,rfl,hc⟩:=g.form;go_enter Tryz.func211,Tryz.ntmps211;go_wp2_with (at_make;refine gJ rfl rfl 211 _ 1 4 Tryz.underlying77 mJ rfl (by decide) (X.length+1) rfl rfl rfl rfl (by omega) (by omega) ?_;intro w1 O C u);have R:=Bx.zeros C;clear C O;go_loopg [6] X.length (fun k t wr=>∃(P:List Nat) (z i:Nat),Hid (i+k=X.length)∧t= .int .i64 (i:Int)∧Hid (P.length=i)∧Dg P∧Hid (z<2^s)∧Hid (nv P+aD^i*z=2^s*nv (X.take i))∧Bx wr w.heap.size (U (P++z :: List.replicate k 0)) 211∧Below w.heap.size w wr)
 case atStart=>exact⟨[],0,0,by unfold Hid;omega,rfl,rfl,(fun d K=>by cases K),Nat.pow_pos (by decide),rfl,R,u⟩
 case round=>
  clear R u;obtain⟨P,z,i,f,rfl,a,o,n,l,R,h⟩:=hrel;generalize wr=wx at *;have ac:(0:Int)<=(i:Int):=by omega
  cases gk with
  |zero=>
   have M:i=X.length:=f.out;subst M;have v:¬(X.length:Int)<(X.length:Int):=by omega
   go_wp2_with fail;go_ret;refine⟨rfl,P++[z],R,by rw[gW a.out],o.snoc (aU n.out (cE (by decide) (show s<=32 by omega))),?_,h⟩;rw[jJ z a.out,l.out,fY aE]
  |succ k=>
   have v:i<X.length:=by have:=f.out;omega
   obtain⟨x,e⟩:∃x,X[i]? =some x:=⟨_,aL v⟩;obtain⟨Q,rfl,ab,Y⟩:=(g.below h).at_ e;have E:=I.get e;unfold aD at E;have m:=aB (gD X i);rw[eO e] at m;clear e;obtain⟨V,L,H,Z,h2,h3,h4,J,q,h7,r⟩:=IQ N E n.out;have T:=R.mid a.out;have S:=fun j=>R.free j;have b:=R.next (y:=L) a.out rfl;rw[List.replicate_succ] at b;have W:=b.mid (gW a.out);have B:=b.next (y:=H) (gW a.out) rfl;have hv:nv (P++[L])+aD^(i+1)*H=2^s*nv (X.take (i+1)):=by
    rw[m.out,jJ _ a.out,cU,Nat.mul_assoc,Nat.add_assoc,<-Nat.mul_add,r,Nat.mul_add,Nat.mul_add,<-l.out,Nat.mul_left_comm];omega
   have G:=aB hv;have F:=aB q;clear hv r q b;go_wp2_with fail;go_roundg k
   case rel=>exact⟨P++[L],H,i+1,by have:=f.out;unfold Hid;omega,by go_num,gW a.out,o.snoc J,F,G,(by rw[List.append_assoc] at B;exact B),(h.setCell (p:=⟨w.heap.size,i,none⟩) aE _).setCell (p:=⟨w.heap.size,i+1,none⟩) aE _⟩
   case measure=>omega
theorem AS (a b:Nat) (va vb:Value) (w:World) (ha:Mg w va a) (ar:Mg w vb b) (la:nl a<=1099511627776) (lb:nl b<=1099511627776):
  Calls Tryz.prog 184 #[va,vb] w (vA w (a*b)):=by
 obtain⟨X,W,tX,rfl⟩:=ha;obtain⟨Y,hY,tY,rfl⟩:=ar;have lX:=iW tX rfl;have lY:=iW tY rfl;have dX:=W.dg;have dY:=hY.dg;obtain⟨A,c,rfl,hc⟩:=W.form;obtain⟨B,d,rfl,hd⟩:=hY.form;clear tX tY;by_cases G:X=[]
 ·subst G;rw[show nv []*nv Y=0 from Nat.zero_mul _];go_enter Tryz.func184,Tryz.ntmps184;go_wp2_with fail;go_ret;exact⟨_,rfl,Mg.zero _ _ _,aH _ _⟩
 ·have qx:((X.length:Int)==0)=false:=by have:=List.length_pos_iff.2 G;simp;omega
  by_cases ac:Y=[]
  ·subst ac;rw[show nv X*nv []=0 from Nat.mul_zero _];clear G;go_enter Tryz.func184,Tryz.ntmps184;go_wp2_with fail;go_ret;exact⟨_,rfl,Mg.zero _ _ _,aH _ _⟩
  ·have qy:((Y.length:Int)==0)=false:=by have:=List.length_pos_iff.2 ac;simp;omega
   clear G ac;go_enter Tryz.func184,Tryz.ntmps184;go_wp2_with (at_make;refine gJ rfl rfl 211 _ 1 4 Tryz.underlying77 mJ rfl (by decide) (X.length+Y.length) rfl rfl rfl rfl (by omega) (by omega) ?_;intro w1 au ag ad);have R:=Bx.zeros ag;rw[Nat.add_comm,<-List.replicate_append_replicate] at R;clear ag au;go_loopg [6] X.length (fun k t wr=>∃(P:List Nat) (i:Nat),Hid (i+k=X.length)∧t= .int .i64 (i:Int)∧Hid (P.length=i+Y.length)∧Dg P∧Hid (nv P=nv (X.take i)*nv Y)∧Bx wr w.heap.size (U (P++List.replicate k 0)) 211∧Below w.heap.size w wr)
   case atStart=>exact⟨_,0,by unfold Hid;omega,rfl,by unfold Hid;rw[cN];omega,Dg.zeros _,by unfold Hid;rw[JK,List.take_zero];exact(Nat.zero_mul _).symm,R,ad⟩
   case round=>
    clear R ad;obtain⟨P,i,J,rfl,l,S,HV,R,g⟩:=hrel;generalize wr=wx at *;have ay:(0:Int)<=(i:Int):=by omega
    cases gk with
    |zero=>
     have hi:i=X.length:=J.out;subst hi;have ae:¬(X.length:Int)<(X.length:Int):=by omega
     rw[List.replicate_zero,List.append_nil] at R;have ht:=mI P w.heap.size (nv X*nv Y) (X.length+Y.length) wx R S (by rw[HV.out,fY aE]) (by rw[l.out];exact aE) (by rw[l.out];omega);rw[l.out] at ht;go_wp2_with fail;refine ht.mono ?_;rintro e2 w2 ⟨v,rfl,hm,rfl⟩;go_wp2_with fail;go_ret;exact⟨_,rfl,hm,g⟩
    |succ k=>
     have ae:i<X.length:=by have:=J.out;omega
     obtain⟨x,F⟩:∃x,X[i]? =some x:=⟨_,aL ae⟩;have aj:=dX.get F;have HX:=aB (gD X i);rw[eO F] at HX;have ao:=aB F;clear F;have af:(P.take i).length=i:=by rw[aZ,l.out];omega
     have ai:(P.drop i).length=Y.length:=by rw[List.length_drop,l.out];omega
     have ap:=S.take i;have aq:=S.drop i;have ah:=IY P i;rw[<-List.take_append_drop i P] at R;generalize P.take i=h at *;generalize P.drop i=f at *;have L:=aB af;have u:=aB ai;have am:=aB ah;clear af ai ah;go_wp2_with fail;go_loopg [7,8] Y.length (fun m s t wr=>∃(Z T:List Nat) (e j:Nat),Hid (j+m=Y.length)∧s= .int .u64 (e:Int)∧t= .int .i64 (j:Int)∧e<aD∧Hid (Z.length=j)∧Hid (f.drop j=T)∧Dg Z∧Hid (nv Z+aD^j*e=nv (f.take j)+x*nv (Y.take j))∧Bx wr w.heap.size (U ((h++Z)++(T++List.replicate (k+1) 0))) 211∧Below w.heap.size w wr)
     case atStart=>exact⟨[],f,0,0,by unfold Hid;omega,rfl,rfl,jY,rfl,rfl,(fun d hd=>by cases hd),by unfold Hid;rw[List.take_zero,List.take_zero];simp[nv],by rw[List.append_nil,<-List.append_assoc];exact R,g⟩
     case round=>
      clear R g;obtain⟨Z,T,e,j,K,rfl,rfl,D,o,M,dZ,N,R,g⟩:=hrel;generalize wr=wy at *;have az:(0:Int)<=(j:Int):=by omega
      have r:Hid ((h++Z).length=i+j):=by unfold Hid;rw[aY,L.out,o.out]
      cases gk with
      |zero=>
       have hj:j=Y.length:=K.out;subst hj;have E:¬(Y.length:Int)<(Y.length:Int):=by omega
       have V:T=[]:=by rw[<-M.out,<-u.out];exact List.drop_length
       subst V;rw[List.nil_append,List.replicate_succ] at R;have g0:=R.mid r.out;have f0:=fun n=>R.free n;have hn:=R.next (y:=e) r.out rfl;have hv:nv (h++(Z++[e]))=nv (X.take (i+1))*nv Y:=by
        rw[jK,jJ e o.out,L.out,N.out,fY (by rw[u.out];exact aE),fY aE,HX.out,Nat.add_mul,<-HV.out,am.out,Nat.mul_add,Nat.mul_assoc,Nat.add_assoc]
       have an:=aB hv;clear hv;unfold aD at D;go_wp2_with fail;go_roundg k
       case rel=>exact⟨h++(Z++[e]),i+1,by have:=J.out;unfold Hid;omega,by go_num,by unfold Hid;rw[aY,gW o.out,L.out];omega,ap.app (dZ.snoc D),an,(by rw[<-List.append_assoc];exact hn),g.setCell (p:=⟨w.heap.size,i+Y.length,none⟩) aE _⟩
       case measure=>omega
      |succ m=>
       have E:j<Y.length:=by have:=K.out;omega
       obtain⟨y,H⟩:∃y,Y[j]? =some y:=⟨_,aL E⟩;obtain⟨z,I⟩:∃z,f[j]? =some z:=⟨_,aL (by rw[u.out];exact E)⟩;obtain⟨bx,rfl,aw,gx⟩:=(W.below g).at_ ao.out;obtain⟨av,rfl,ax,gy⟩:=(hY.below g).at_ H;have ak:=dY.get H;have al:=aq.get I;have V:T=z :: f.drop (j+1):=by rw[<-M.out];exact(List.drop_eq_getElem_cons (by rw[u.out];exact E)).trans (by rw[(List.getElem?_eq_some_iff.1 I).2])
       subst V;have O:=aB (gD Y j);have Q:=aB (gD f j);rw[eO H] at O;rw[eO I] at Q;clear H I M;have g0:=R.mid r.out;have f0:=fun n=>R.free n;obtain⟨C,b2⟩:=IZ aj ak D al;have ab:=vE o.out N.out (show e+(x*y+z)=e+(x*y+z) from rfl);rw[show nv (f.take j)+x*nv (Y.take j)+aD^j*(x*y+z)=nv (f.take (j+1))+x*nv (Y.take (j+1)) by rw[O.out,Q.out];grind] at ab;have w1:IntKind.u64.wrap ((x:Int)*y)=((x*y:Nat):Int):=by rw[<-Int.natCast_mul];exact IntWalk.u64_in _ (by unfold aD at C;omega)
       generalize x*y=p at *;have w2:IntKind.u64.wrap ((p:Int)+z)=((p+z:Nat):Int):=by rw[<-Int.natCast_add];exact IntWalk.u64_in _ (by unfold aD at C;omega)
       generalize hq:p+z=q at *;have w3:IntKind.u64.wrap ((e:Int)+q)=((e+q:Nat):Int):=by rw[<-Int.natCast_add];exact IntWalk.u64_in _ (by unfold aD at C;omega)
       have a0:e+q<=18446744073709551615:=by unfold aD at C;omega
       generalize e+q=s at *;have HS:=aB ab;have w4:=IntWalk.i64_in ((i:Int)+j) (by omega);have w5:(0:Int)<=(i:Int)+j:=by omega
       have w6:((i:Int)+j).toNat=i+j:=by omega
       have w7:i+j<X.length+Y.length:=by omega
       clear ab hq N O Q;unfold aD at aj ak al D b2;go_wp2_with fail;go_quiet (fail);go_wp2_with fail;go_roundg m
       case rel=>exact⟨Z++[s%aD],f.drop (j+1),s/aD,j+1,by have:=K.out;unfold Hid;omega,rR (by unfold aD;omega),by go_num,b2,gW o.out,rfl,dZ.snoc (Nat.mod_lt _ jY),HS,(by
        rw[<-List.append_assoc h];exact(show Bx (wy.drewN _) _ (U ((h++Z)++z :: (f.drop (j+1)++List.replicate (k+1) 0))) _ from R).next r.out (n8 (a:=(s:Int)%4294967296) (b:=s%aD) (by unfold aD;omega))),(dH g _).setCell (p:=⟨w.heap.size,i+j,none⟩) aE _⟩
       case measure=>omega
