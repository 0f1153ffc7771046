/-
  Contracts, laws: NumU, RefA, RefP, RefB, WhoA, WhoB, BasA, BasB, UniK, ArP, WhoC, TraP, KeepA, RowJ, PlusA, PlusB.
-/
import Derived.Test.YthfnenohhindpaaGreatDoorD36
set_option linter.all false
set_option maxHeartbeats 8000000
set_option maxRecDepth 100000
namespace Go.Proofs.YthfnenohhindpaaGreatDoor
open Go.RowKit Sos
theorem RD (ls:List (List UInt8)) (v:Value) (w:World) (hv:StrsAt w v ls) (hl:ls.length<=1073741824) (ac:∀l∈ls,l.length<=1073741824):
  Calls Tryz.prog 101 #[v] w fun e w'=>∃P,e= .returned (.tuple #[P,.bool (ls.all rd)])∧(ls.all rd=true->∃g,P= .slice (some ⟨g,0,none⟩) ls.length ls.length∧w.heap.size<=g∧OwnQ w' g (aN ls))∧Below w.heap.size w w':=by
 obtain⟨A,c,rfl,hc⟩:=hv.form;have O:(aN ls).length=ls.length:=bK _;have q:=aB O;clear O;go_enter Tryz.func101,Tryz.ntmps101;go_wp2_with (at_make;refine gJ rfl rfl 81 _ 4 64 Tryz.underlying71 pN rfl (by decide) ls.length rfl rfl rfl rfl (by omega) (by omega) ?_;intro w1 af L C);have x:=OwnQ.made L;clear L af;go_loopg [5] ls.length (fun k i wr=>∃j,Hid (j+k=ls.length)∧i= .int .i64 j∧OwnQ wr w.heap.size ((aN ls).take j++List.replicate k 0)∧Hid ((ls.take j).all rd=true)∧Below w.heap.size w wr)
 case atStart=>exact⟨0,by unfold Hid;omega,rfl,by simpa using x,by unfold Hid;simp,C⟩
 case round=>
  clear x C;obtain⟨j,d,rfl,R,n,a⟩:=hrel;generalize wr=wx at *;have aj:(0:Int)<=(j:Int):=by omega
  cases gk with
  |zero=>
   have H:j=ls.length:=d.out;have B:ls.all rd=true:=by
    have:=n.out;rw[H,List.take_length] at this;exact this
   subst H;rw[List.replicate_zero,List.append_nil,cA (by rw[q.out];exact aE)] at R;have T:=aB B;clear B n;go_wp2_with fail;go_ret2;rw[T.out];exact⟨_,rfl,fun _=>⟨w.heap.size,rfl,aE,R⟩,a⟩
  |succ k=>
   obtain⟨t,f⟩:∃t,ls[j]? =some t:=⟨_,aL (by have:=d.out;omega)⟩;obtain⟨b,am,rfl,ai,g0⟩:=(hv.below a).at_ f;have ae:=ac t (cH f);have ak:(j:Int)<(ls.length:Int):=by have:=d.out;omega
   have N:(aN ls)[j]? =some ((d7 t).getD 0):=by unfold aN;rw[List.getElem?_map,f];rfl
   have E:=lS (ys:=aN ls) (z:=(0:Rat)) (j:=j) (k:=k+1) (by rw[q.out];exact d.out);have F:=lR (z:=(0:Rat)) (k:=k) N;have G:j<((aN ls).take j++List.replicate (k+1) 0).length:=by rw[E,q.out];have:=d.out;omega
   have M:(ls.take (j+1)).all rd=rd t:=by rw[List.take_add_one,f,Option.toList_some,List.all_append,n.out];simp
   have I:rd t=false->ls.all rd=false:=fun h=>by
    rw[List.all_eq_false];exact⟨t,cH f,by rw[h];simp⟩
   have U:=aB F;have p:=aB M;have o:=aB I;clear N E F M I f;go_wp2_with fail;refine(F3 t _ ae).mono ?_;rintro e2 w2 ⟨v2,q2,rfl,m,u,D⟩;obtain⟨s2,Q,k2,Y,s3,S,k3,Z,rfl⟩:=m.form;replace R:=R.below D;replace a:=aC a D;cases hrd:rd t with
   |false=>
    have V:=aB (o.out hrd);clear o p hrd u;go_wp2_with fail;go_ret2;rw[V.out];exact⟨_,rfl,(fun h=>by cases h),a.alloc a.size _⟩
   |true=>
    have W:Hid (q2=(d7 t).getD 0):=by
     obtain⟨r,K⟩:=Option.isSome_iff_exists.1 hrd;unfold Hid;rw[K];exact u r K
    rw[hrd] at p;clear o hrd u;obtain⟨W3,y,s,X⟩:=bB w2 [.bool s2,.slice Q k2 Y,.bool s3,.slice S k3 Z] 81;replace R:=R.below s;replace m:=m.below s;replace a:=aC a s;obtain⟨s',B',l',d',an,ag,al,ah,q0, -⟩:=R.at_ (aL G);have f0:=R.free;have cX:=X.k4;rw[W.out] at m;generalize (d7 t).getD 0=q3 at *;go_wp2_with fail;(try rw[y]);clear y;go_wp2_with fail;obtain⟨J,ad⟩:=R.stored G m;rw[U.out] at J;have ab:=fS a ad.2 aE;go_roundg k
    case rel=>exact⟨j+1,by have:=d.out;unfold Hid;omega,by go_num,J,p,ab⟩
    case measure=>omega
theorem RE (a:List Rat) (v:Value) (w:World) (hv:QsAt w v a) (K:Nat) (H:∀q∈a,RL K q) (I:K<=549755813888) (hl:a.length<=1073741824):
  Calls Tryz.prog 59 #[v] w fun e w'=>∃F,e= .returned F∧StrsAt w' F (a.map bD)∧Below w.heap.size w w':=by
 obtain⟨A,c,rfl,Y⟩:=hv.form;have E:(a.map bD).length=a.length:=bK _;have h:=aB E;clear E;go_enter Tryz.func59,Tryz.ntmps59;go_wp2_with (at_make;refine gJ rfl rfl 9 _ 1 16 Tryz.underlying22 DR rfl (by decide) a.length rfl rfl rfl rfl (by omega) (by omega) ?_;intro w1 P y o);have n:=OwnS.made y;clear y P;go_loopg [4] a.length (fun k i wr=>∃j,Hid (j+k=a.length)∧i= .int .i64 j∧OwnS wr w.heap.size ((a.map bD).take j++List.replicate k [])∧Below w.heap.size w wr)
 case atStart=>exact⟨0,by unfold Hid;omega,rfl,by simpa using n,o⟩
 case round=>
  clear n o;obtain⟨j,f,rfl,R,g⟩:=hrel;generalize wr=wx at *;have Z:(0:Int)<=(j:Int):=by omega
  cases gk with
  |zero=>
   have N:j=a.length:=f.out;subst N;rw[List.replicate_zero,List.append_nil,cA (by rw[h.out];exact aE)] at R;have C:=R.strs a.length (by rw[h.out];exact aE);rw[h.out] at C;go_wp2_with fail;go_ret;exact⟨_,rfl,C,g⟩
  |succ k=>
   obtain⟨q,l⟩:∃q,a[j]? =some q:=⟨_,aL (by have:=f.out;omega)⟩;obtain⟨b,s,B,m,d,s',S,m',T,rfl,X,W,M⟩:=(hv.below g).at_ l;have J:=H q (cH l);have ab:(j:Int)<(a.length:Int):=by have:=f.out;omega
   have D:(a.map bD)[j]? =some (bD q):=by rw[List.getElem?_map,l];rfl
   have r:=lS (ys:=a.map bD) (z:=([]:List UInt8)) (j:=j) (k:=k+1) (by rw[h.out];exact f.out);have t:=lR (z:=([]:List UInt8)) (k:=k) D;have u:j<((a.map bD).take j++List.replicate (k+1) []).length:=by rw[r,h.out];have:=f.out;omega
   have G:=aB t;clear D r t l;go_wp2_with fail;refine(y7 q _ _ M K J I).mono ?_;rintro U w2 ⟨rfl,p⟩;replace R:=R.below p;replace g:=aC g p;have q0:=R.at_ (aL u);have V:=R.free j;generalize bD q=Q at *;go_wp2_with fail;obtain⟨x,O⟩:=R.stored u Q;rw[G.out] at x;have L:=fS g O aE;go_roundg k
   case rel=>exact⟨j+1,by have:=f.out;unfold Hid;omega,by go_num,x,L⟩
   case measure=>omega
def jV (w:World) (b:List Rat) (e:Ending) (w':World):Prop:=∃a,e= .returned a∧QsAt w' a b∧Below w.heap.size w w'
def mE (ls:List (List UInt8)):List Rat:=if vl ls=true then aN ls else []
def o8 (w:World) (ls:List (List UInt8)) (e:Ending) (w':World):Prop:=∃a,e= .returned (.tuple #[a,.bool (vl ls)])∧QsAt w' a (mE ls)∧Below w.heap.size w w'
theorem qV {ls:List (List UInt8)} (h:vl ls=true):mE ls=aN ls:=if_pos h
theorem tW {ls:List (List UInt8)} (h:vl ls=false):mE ls=[]:=if_neg (by rw[h];simp)
theorem F2 (q:Rat):(q.num.sign==0)=decide (q=0):=by
 rw[Bool.eq_iff_iff,decide_eq_true_iff,beq_iff_eq,Int.sign_eq_zero_iff_zero];exact⟨fun h=>Rat.num_eq_zero.1 h,fun h=>by rw[h];rfl⟩
theorem QY (ls:List (List UInt8)) (v:Value) (w:World) (hv:StrsAt w v ls) (z:ls.length<=1073741824) (C:∀l∈ls,l.length<=1073741824) (x:∀q∈aN ls,RL 1099511627776 q):
  Calls Tryz.prog 46 #[v] w (o8 w ls):=by
 obtain⟨A,c,rfl,M⟩:=hv.form;go_enter Tryz.func46,Tryz.ntmps46;go_wp2_with fail;refine(RD ls _ _ hv z C).mono ?_;rintro J F ⟨U,rfl,n,b⟩;cases ha:ls.all rd with
 |false=>
  have a:Hid (vl ls=false):=by unfold Hid vl;rw[decide_eq_false_iff_not,ha];simp
  clear ha n;go_wp2_with fail;go_ret2;unfold o8;rw[a.out,tW a.out];exact⟨_,rfl,QsAt.nil _,b⟩
 |true=>
  obtain⟨g,rfl,N,R⟩:=n ha;have f:=RC ls;have e:=R.nums ls.length (by omega);rw[f] at e;clear n;by_cases o:ls.length<=65
  ·have D:¬(65:Int)<(ls.length:Int):=by omega
   by_cases h:ls.length=0
   ·have a:Hid (vl ls=true):=by
     have:ls=[]:=bM h;unfold Hid;rw[this];rfl
    have E:decide (0<ls.length)=false:=by rw[h];rfl
    clear ha h f R;go_wp2_with fail;go_ret2;unfold o8;rw[a.out,qV a.out];exact⟨_,rfl,e,b⟩
   ·obtain⟨m,i⟩:∃m,ls.length=m+1:=⟨ls.length-1,by omega⟩;have E:decide (0<ls.length)=true:=by rw[i];simp
    have P:(ls.length:Int)-1=(m:Int):=by omega
    have Q:(m:Int)<(ls.length:Int):=by omega
    obtain⟨q,j⟩:∃q,(aN ls)[m]? =some q:=⟨_,aL (by omega)⟩;obtain⟨s,B,k,d,S,G,O,I,L,y⟩:=R.at_ j;have r:(aN ls).getLast?=some q:=by rw[List.getLast?_eq_getElem?,f,i];exact j
    have t:=mZ q _ F y (x q (cH j)).1;have u:=F2 q;have a:Hid (vl ls= !decide (q=0)):=by
     unfold Hid vl;rw[Bool.eq_iff_iff,decide_eq_true_iff,ha,r];simp[o]
    have H:=aB i;generalize q.num.sign=T at *;clear ha h f R j r i;go_wp2_with fail;refine t.mono ?_;rintro K V ⟨rfl,p⟩;clear t;replace b:=aC b p;replace e:=e.below p;cases hd:decide (q=0) with
    |true=>
     rw[hd] at u a;clear hd;go_wp2_with fail;go_ret2;unfold o8;rw[a.out,tW a.out];exact⟨_,rfl,QsAt.nil _,b⟩
    |false=>
     rw[hd] at u a;clear hd;go_wp2_with fail;go_ret2;unfold o8;rw[qV a.out,a.out];exact⟨_,rfl,e,b⟩
  ·have D:(65:Int)<(ls.length:Int):=by omega
   have a:Hid (vl ls=false):=QZ o;clear ha o f R;go_wp2_with fail;go_ret2;unfold o8;rw[a.out,tW a.out];exact⟨_,rfl,QsAt.nil _,b⟩
theorem qW (a:List Rat) (v:Value) (w:World) (hv:QsAt w v a) (E:∀q∈a,nl q.num.natAbs<=1099511627776) (T:a.length<=1073741824):
  Calls Tryz.prog 174 #[v] w (jV w (aX aW a)):=by
 obtain⟨A,c,rfl,S⟩:=hv.form;go_enter Tryz.func174,Tryz.ntmps174;go_wp2_with fail;go_loopg [3] a.length (fun k i wr=>∃m,Hid (m=k)∧i= .int .i64 m∧m<=a.length∧Hid (aX aW (a.take m)=aX aW a)∧Below w.heap.size w wr)
 case atStart=>exact⟨a.length,rfl,rfl,aE,by unfold Hid;rw[List.take_length],aH _ _⟩
 case round=>
  obtain⟨m,t,rfl,H,g,e⟩:=hrel;generalize wr=M at *;have U:(0:Int)<=(m:Int):=by omega
  cases gk with
  |zero=>
   obtain rfl:m=0:=t.out;have j:Hid (a.take 0=aX aW a):=by have:=g.out;exact this
   have f:=e;have hcut:=(hv.below e).cut 0 (by omega);have r0:(0:Int)<=(0:Int):=by decide
   clear g;go_wp2_with (at_builtin;refine uR rfl rfl rfl rfl hcut (by simp) ?_;intro K L n _ o);go_ret;exact⟨_,rfl,by rw[<-j.out];exact n,aC f o⟩
  |succ k=>
   have I:m=k+1:=t.out;subst I;obtain⟨q,h⟩:∃q,a[k]? =some q:=⟨_,aL (by omega)⟩;obtain⟨b,s,B,l,d,s',N,Z,O,rfl,R,Q,F⟩:=(hv.below e).at_ h;have J:=mZ q _ M F (E q (cH h));have C:=F2 q;have y:=vM aW a h;have z:=vN aW a h;have r:=aB y;have u:=aB z;have hcut:=(hv.below e).cut (k+1) H;clear y z;have V:((k:Int)+1)<=(a.length:Int):=by omega
   have W:k+1<=c:=by omega
   have X:k<=c:=by omega
   have Y:(0:Int)<=(k:Int):=by omega
   generalize q.num.sign=sg at *;go_wp2_with fail;refine J.mono ?_;rintro P w1 ⟨rfl,x⟩;have f:=aC e x;replace hcut:=hcut.below x;cases hd:decide (q=0) with
   |true=>
    have p:aW q=true:=hd;rw[hd] at C;clear hd;go_wp2_with fail;go_roundg k
    case rel=>exact⟨k,rfl,by simp,by omega,by unfold Hid;rw[<-r.out p];exact g.out,f⟩
    case measure=>omega
   |false=>
    have p:aW q=false:=hd;rw[hd] at C;have D:a.take (k+1)=aX aW a:=by rw[<-g.out];exact(u.out p).symm
    have j:=aB D;have G:(a.take (k+1)).length<=1073741824:=by rw[aZ];omega
    clear hd D u r g;go_wp2_with (at_builtin;refine uR rfl rfl rfl rfl hcut G ?_;intro K L n _ o);go_ret;exact⟨_,rfl,by rw[<-j.out];exact n,aC f o⟩
end Go.Proofs.YthfnenohhindpaaGreatDoor
namespace Go.Proofs.YthfnenohhindpaaGreatDoor
open Sos Lib
theorem S0 (m n:Nat):nl (m+n)<=max (nl m) (nl n)+1:=by
 have a:=cJ m;have b:=cJ n;refine bW ?_;have c:BN^nl m<=BN^max (nl m) (nl n):=cE (by decide) (Nat.le_max_left _ _);have d:BN^nl n<=BN^max (nl m) (nl n):=cE (by decide) (Nat.le_max_right _ _);rw[cU];have e:2*BN^max (nl m) (nl n)<=BN^max (nl m) (nl n)*BN:=by rw[dD];exact dL _ (by decide)
 omega
theorem jC {n d:Int} {K:Nat} (hn:nl n.natAbs<=K) (b:nl d.natAbs<=K) (a:1<=K):RL K ((n:Rat)/d):=xW n d K hn b a
theorem yA {K:Nat} {q:Rat} (h:RL K q):1<=K:=by
 have b:=h.2;rcases Nat.eq_zero_or_pos K with a|a
 ·subst a;have:=cJ q.den;rw[show nl q.den=0 by omega] at this;have:=q.den_pos;simp at *;omega
 ·exact a
theorem jD {x y:Rat} {a b:Nat} (c:RL a x) (d:RL b y):RL (a+b) (x*y):=by
 rw[<-uU];refine jC ?_ ?_ (by have:=yA c;omega)
 ·rw[Int.natAbs_mul];exact aG (dJ _ _) (Nat.add_le_add c.1 d.1)
 ·rw[Int.natAbs_mul];exact aG (dJ _ _) (Nat.add_le_add c.2 d.2)
theorem yB {x y:Rat} {a b:Nat} (c:RL a x) (d:RL b y):RL (a+b+1) (x+y):=by
 rw[<-zW];refine jC ?_ ?_ (by omega)
 ·refine aG (bX (Int.natAbs_add_le _ _)) (aG (S0 _ _) ?_);have g:=dJ x.num.natAbs y.den;have h:=dJ y.num.natAbs x.den;have e:(x.num*y.den).natAbs=x.num.natAbs*y.den:=by rw[Int.natAbs_mul,cI]
  have f:(y.num*x.den).natAbs=y.num.natAbs*x.den:=by rw[Int.natAbs_mul,cI]
  rw[e,f];have:=c.1;have:=c.2;have:=d.1;have:=d.2;omega
 ·rw[Int.natAbs_mul];exact aG (dJ _ _) (by have:=c.2;have:=d.2;simp only[cI];omega)
theorem FA {x y:Rat} {a b:Nat} (c:RL a x) (d:RL b y):RL (a+b+1) (x-y):=by
 rw[Rat.sub_eq_add_neg];exact yB c (EU d)
theorem uA {x y:Rat} {a b:Nat} (c:RL a x) (e:RL b y):RL (a+b) (x/y):=by
 by_cases d:y=0
 ·rw[d,Rat.div_def,Rat.inv_zero,Rat.mul_zero];exact fU (by have:=yA c;omega)
 ·rw[<-zZ x y d];refine jC ?_ ?_ (by have:=yA c;omega)
  ·rw[Int.natAbs_mul];exact aG (dJ _ _) (Nat.add_le_add c.1 e.2)
  ·rw[Int.natAbs_mul];exact aG (dJ _ _) (Nat.add_le_add c.2 e.1)
theorem yC {n:Nat} (h:n<18446744073709551616):RL 1 ((n:Nat):Rat):=⟨bW (by unfold BN;simpa using h),by show nl 1<=1;exact bW (by decide)⟩
theorem jE {l:List Rat} {K:Nat} (h:∀q∈l,RL K q) (b:RL K 0) (i:Nat):RL K (cf l i):=by
 by_cases a:i<l.length
 ·rw[eJ a];exact h _ (List.getElem_mem a)
 ·rw[bZ (by omega)];exact b
def fQ (p:List Rat) (x:Rat):Rat:=p.foldr (fun a s=>s*x+a) 0
theorem S3 {p:List Rat} {i:Nat} {q:Rat} (x:Rat) (h:p[i]? =some q):fQ (p.drop i) x=fQ (p.drop (i+1)) x*x+q:=by
 obtain⟨a,rfl⟩:=List.getElem?_eq_some_iff.1 h;rw[List.drop_eq_getElem_cons a];rfl
theorem FC {p:List Rat} {x:Rat} {K:Nat} (b:∀q∈p,RL K q) (f:RL K x):RL (1+p.length*(2*K+1)) (fQ p x):=by
 induction p with
 |nil=>exact fU (by omega)
 |cons a p g=>
  have c:=g (fun q e=>b q (List.mem_cons_of_mem _ e));have d:=yB (jD c f) (b a (List.mem_cons_self ..));refine bU d ?_;rw[List.length_cons,Nat.succ_mul p.length];generalize p.length*(2*K+1)=z;omega
def eT (ns:List Int) (a b:Int):Int:=(ns.foldr (fun c v=>(v.1*a+c*v.2,v.2*b)) ((0:Int),(1:Int))).1
def gM (ns:List Int) (a b:Int):Int:=(ns.foldr (fun c v=>(v.1*a+c*v.2,v.2*b)) ((0:Int),(1:Int))).2
theorem S4 {ns:List Int} {i:Nat} {n:Int} (a b:Int) (h:ns[i]? =some n):eT (ns.drop i) a b=eT (ns.drop (i+1)) a b*a+n*gM (ns.drop (i+1)) a b∧gM (ns.drop i) a b=gM (ns.drop (i+1)) a b*b:=by
 obtain⟨c,rfl⟩:=List.getElem?_eq_some_iff.1 h;rw[List.drop_eq_getElem_cons c];exact⟨rfl,rfl⟩
theorem S5 (ns:List Int) (a b:Int):gM ns a b=b^ns.length:=by
 induction ns with
 |nil=>simp[gM]
 |cons c ns d=>show gM ns a b*b=_;rw[d,List.length_cons,Int.pow_succ]
theorem S6 (ns:List Int) (a b:Int) (i:b≠0):(eT ns a b:Rat)*b=gM ns a b*fQ (ns.map (fun n:Int=>(n:Rat))) (a/b):=by
 have j:(b:Rat)≠0:=by exact_mod_cast i
 induction ns with
 |nil=>show((0:Int):Rat)*b=((1:Int):Rat)*0;simp
 |cons c ns k=>
  have d:eT (c :: ns) a b=eT ns a b*a+c*gM ns a b:=rfl;have e:gM (c :: ns) a b=gM ns a b*b:=rfl;have f:fQ ((c :: ns).map (fun n:Int=>(n:Rat))) (a/b)=fQ (ns.map (fun n:Int=>(n:Rat))) (a/b)*(a/b)+c:=rfl;rw[d,e,f];push_cast;generalize (eT ns a b:Rat)=v at *;generalize (gM ns a b:Rat)=p at *;generalize fQ (ns.map (fun n:Int=>(n:Rat))) (a/b)=s at *;have g:(v*a+c*p)*b=(v*b)*a+c*p*b:=by grind
  rw[g,k];have h:(a:Rat)=(a/b)*b:=by rw[Rat.div_mul_cancel j]
  generalize (a:Rat)/b=t at *;rw[h];grind
end Go.Proofs.YthfnenohhindpaaGreatDoor
namespace Go.Proofs.YthfnenohhindpaaGreatDoor
open Go.RowKit Sos
def QU (w:World) (b:Nat) (q:Rat):Prop:=∃s A l c e a d c',Bx w b [.bool s,.slice A l c,.bool e,.slice a d c'] 81∧NQ w (.agg #[.bool s,.slice A l c,.bool e,.slice a d c']) q
theorem QV (p:List Rat) (x:Rat) (v vx:Value) (w:World) (hv:QsAt w v p) (U:NQ w vx x) (K:Nat) (P:∀q∈p,RL K q) (t:RL K x) (hl:p.length<=1024) (ai:2*(1+p.length*(2*K+1)+K)+1<=549755813888):
  Calls Tryz.prog 99 #[v,vx] w (fC w (fQ p x)):=by
 obtain⟨A,c,rfl,hc⟩:=hv.form;obtain⟨s1,B,Y,H,s2,C,Z,I,rfl⟩:=U.form;obtain⟨W,M,a,X,R,V⟩:=fF w [.bool s1,.slice B Y H,.bool s2,.slice C Z I] 81 [.bool false,.slice none 0 0,.bool false,.slice none 0 0] 81 [.bool false,.slice none 0 0,.bool false,.slice none 0 0] 81;have e:=aa X.g4 (aa R.g4 V.g4);go_enter Tryz.func99,Tryz.ntmps99;go_wp2_with fail;(try rw[M]);clear M;obtain⟨W1,N,V,a,l,d⟩:=V.mut4 a (by omega) (.bool false) (.slice none 0 0) (.bool false) (.slice none 0 0) rfl rfl;replace X:=d X (by omega);replace R:=d R (by omega);rw[N];clear N;replace e:=aa X.k4 (aa R.g4 V.g4);go_loopg [6] p.length (fun k i wr=>∃z:Int,Hid (z=(k:Int)-1)∧i= .int .i64 z∧k<=p.length∧Bx wr w.heap.size [.bool s1,.slice B Y H,.bool s2,.slice C Z I] 81∧Bx wr (w.heap.size+1) [.bool false,.slice none 0 0,.bool false,.slice none 0 0] 81∧QU wr (w.heap.size+1+1) (fQ (p.drop k) x)∧Below w.heap.size w wr)
 case atStart=>exact⟨(p.length:Int)-1,rfl,rfl,aE,X,R,⟨_,_,_,_,_,_,_,_,V,by rw[List.drop_length];exact NQ.zero _⟩,a⟩
 case round=>
  clear X R V a e;obtain⟨z,F,rfl,l,X,R,⟨s3,D,k3,J,s4,E,k4,L,V,o⟩,a⟩:=hrel;generalize wr=wx at *;have e:=aa X.g4 (aa R.g4 V.g4);cases gk with
  |zero=>
   have hz:z<0:=by have:=F.out;omega
   have al:¬0<=z:=by omega
   go_wp2_with fail;obtain⟨W6,j,R,a,l,d⟩:=R.mut4 a (by omega) (.bool s3) (.slice D k3 J) (.bool s4) (.slice E k4 L) rfl rfl;replace X:=d X (by omega);replace V:=d V (by omega);replace o:=o.keep l;rw[j];clear j;replace e:=aa X.k4 (aa R.k4 V.k4);exact aK (v:= .agg #[.bool s3,.slice D k3 J,.bool s4,.slice E k4 L]) (by simp[results,Tryz.results99,go_sem,R.k4]) rfl ⟨_,rfl,o,a⟩
  |succ k=>
   obtain rfl:z=(k:Int):=by have:=F.out;omega
   obtain⟨q,f⟩:∃q,p[k]? =some q:=⟨_,aL (by omega)⟩;obtain⟨b,s5,A5,k5,c5,s6,A6,k6,c6,rfl,af,g0,hi⟩:=(hv.below a).at_ f;have ak:(k:Int)<(p.length:Int):=by omega
   have aj:(0:Int)<=(k:Int):=by omega
   have S:=S3 x f;have g:=FC (p:=p.drop (k+1)) (fun q f=>P q (List.mem_of_mem_drop f)) t;have bl:1+(p.drop (k+1)).length*(2*K+1)<=1+p.length*(2*K+1):=by
    rw[List.length_drop];have:=cZ (2*K+1) (show p.length-(k+1)<=p.length by omega);omega
   replace g:=bU g bl;have ag:1<=p.length:=by omega
   have ac:2*K+1<=p.length*(2*K+1):=by
    have:=cZ (2*K+1) ag;omega
   have G:=jD g t;have T:=fun W u v h s=>rL (fQ (p.drop (k+1)) x) x u v W h s (1+p.length*(2*K+1)) g (bU t (by omega)) (by omega);have Q:=fun W u v h s=>rK (fQ (p.drop (k+1)) x*x) q u v W h s (1+p.length*(2*K+1)+K) G (bU (P q (cH f)) (by omega)) (by omega);have ab:=aB S;have ah:=U.below a;unfold fC at T Q;clear S g G bl ac f;generalize fQ (p.drop (k+1)) x*x+q=y at *;generalize fQ (p.drop (k+1)) x*x=m at *;generalize fQ (p.drop (k+1)) x=sv at *;go_wp2_with fail
   go_region_with (first
    |(go_at_call 94;(with_reducible refine(T _ _ _ o.up ah.up).mono ?_);rintro e7 w7 ⟨v7,rfl,O,ad⟩;obtain⟨s7,A7,k7,c7,s8,A8,k8,c8,rfl⟩:=O.form;have:=St.mk ad;have g1:=g0.up (b:=w7) af)
    |(go_at_call 136;(with_reducible refine(Q _ _ _ O.up hi.up).mono ?_);rintro e9 r ⟨v9,rfl,n,ae⟩;obtain⟨s9,A9,k9,c9,s0,A0,k0,c0,rfl⟩:=n.form;have:=St.mk ae;replace X:=X.up (b:=r);replace R:=R.up (b:=r);replace V:=V.up (b:=r);replace a:=eG (b:=r) a;replace e:=aa X.g4 (aa R.g4 V.g4)))
   all_goals (
    go_wp2_with fail;obtain⟨W6,j,V,a,l,d⟩:=V.mut4 a (by omega) (.bool s9) (.slice A9 k9 c9) (.bool s0) (.slice A0 k0 c0) rfl rfl;replace X:=d X (by omega);replace R:=d R (by omega);replace n:=n.keep l;rw[j];clear j;replace e:=aa X.k4 (aa R.k4 V.k4);go_roundg k
    case rel=>exact⟨(k:Int)-1,rfl,by first|rfl|go_num,by omega,X,R,⟨_,_,_,_,_,_,_,_,V,by rw[ab.out];exact n⟩,a⟩
    case measure=>omega)
def eR (p:List Rat):List Rat:=(List.range (p.length-1)).map (fun i=>cf p (i+1)*((i+1:Nat):Rat))
theorem lK (p:List Rat):(eR p).length=p.length-1:=by unfold eR;rw[bK,List.length_range]
theorem QW {p:List Rat} {m:Nat} {q:Rat} (a:1<=m) (h:p[m]? =some q):(eR p).take m=(eR p).take (m-1)++[q*(m:Rat)]:=by
 obtain⟨i,rfl⟩:∃i,m=i+1:=⟨m-1,by omega⟩;have b:=(List.getElem?_eq_some_iff.1 h).1;have e:(eR p)[i]? =some (q*((i+1:Nat):Rat)):=by
  unfold eR;rw[List.getElem?_map,List.getElem?_range (by omega),<-oM h];rfl
 rw[List.take_add_one,e,Nat.add_sub_cancel];rfl
theorem F0 {p:List Rat} {K:Nat} (b:∀q∈p,RL K q) (d:p.length<=1024) (a:1<=K):∀q∈eR p,RL (K+1) q:=fun q c=>by
 obtain⟨i,hi,rfl⟩:=List.mem_map.1 c;exact jD (jE b (fU a) _) (yC (by have:=List.mem_range.1 hi;omega))
theorem F1 (p:List Rat) (v:Value) (w:World) (hv:QsAt w v p) (K:Nat) (r:∀q∈p,RL K q) (R:p.length<=1024) (f:1<=K) (J:2*K<=549755813888):
  Calls Tryz.prog 123 #[v] w (jV w (aX aW (eR p))):=by
 obtain⟨A,c,rfl,hc⟩:=hv.form;go_enter Tryz.func123,Tryz.ntmps123;go_wp2_with fail;go_loopg [3,4] (p.length-1) (fun k Y Z wr=>∃m,Hid (m+k=p.length-1+1)∧1<=m∧Z= .int .i64 (m:Int)∧GrowQ wr w.heap.size Y ((eR p).take (m-1))∧Below w.heap.size w wr)
 case atStart=>exact⟨1,by unfold Hid;omega,aE,rfl,by simpa using GrowQ.nil _,aH _ _⟩
 case round=>
  obtain⟨m,e,S,rfl,j,l⟩:=hrel;generalize wr=B at *;have ac:(0:Int)<=(m:Int):=by omega
  cases gk with
  |zero=>
   have ab:¬(m:Int)<(p.length:Int):=by have:=e.out;omega
   have s:=j.nums;rw[cA (by rw[lK];have:=e.out;omega)] at s;have U:=qW (eR p) _ B s (fun q d=>aG (F0 r R f q d).1 (by omega)) (by rw[lK];omega);clear j e;go_wp2_with fail;refine U.mono ?_;rintro e1 w1 ⟨v1,rfl,f,L⟩;go_wp2_with fail;go_ret;exact⟨_,rfl,f,aC l L⟩
  |succ k=>
   have T:m<p.length:=by have:=e.out;omega
   have ad:(m:Int)<(p.length:Int):=by omega
   obtain⟨q,d⟩:∃q,p[m]? =some q:=⟨_,aL T⟩;obtain⟨b,s5,C,V,F,s6,D,X,G,rfl,g,i,Q⟩:=hv.at_ d;have z:=QW S d;have t:=fun W=>uT m W (by omega);have x:=fun W u v h H=>rL q (m:Rat) u v W h H K (r q (cH d)) (bU (yC (by omega)) f) J;have P:((eR p).take (m-1)).length<=1073741824:=by rw[aZ,lK];omega
   have E:=aB z;unfold fC at x t;clear z d;have:=St.mk l;generalize q*(m:Rat)=y at *;generalize (m:Rat)=mr at *;have gx:=i.up (b:=B) g;go_wp2_with fail
   go_region_held3 (fun w'=>R4 w' b (m*4) (.bool s5) (.slice C V F) (.bool s6) (.slice D X G))
    (first|(with_reducible exact i.up g)|(with_reducible exact R4.old (i.up g) (by assumption) g))
    (first
     |(go_at_call 93;(with_reducible refine(t _).mono ?_);rintro e7 w7 ⟨v7,rfl,n,N⟩;obtain⟨s7,A7,k7,c7,s8,A8,k8,c8,rfl⟩:=n.form;have:=St.mk N)
     |(go_at_call 94;(with_reducible refine(x _ _ _ Q.up n.up).mono ?_);rintro e9 w9 ⟨v9,rfl,o,O⟩;obtain⟨s9,A9,k9,c9,s0,A0,k0,c0,rfl⟩:=o.form;have:=St.mk O)
     |((refine II (by rfl) (by rfl) (by rfl) j.up (by rfl) (Bx.new _ _ _) o.up P (Up.out (a:=w)).size ?_;intro v4 w4 I M)))
   all_goals (
    go_wp2_with fail;go_roundg k
    case rel=>exact⟨m+1,by have:=e.out;unfold Hid;omega,by omega,by go_num,by rw[Nat.add_sub_cancel,E.out];exact I,(Up.out (a:=w)).trans M⟩
    case measure=>omega)
theorem FD (n c:Nat) (A:Option Addr) (w:World) (hn:n<=1099511627776):Calls Tryz.prog 89 #[.slice A n c] w fun e w'=>e= .returned (.int .i64 ((n:Int)-1))∧w'=w:=by
 go_enter Tryz.func89,Tryz.ntmps89;go_wp2;go_ret;exact⟨rfl,rfl⟩
def aR (l:List Int):Nat:=l.foldr (fun n g=>Nat.gcd g n.natAbs) 0
theorem FE:aR []=0:=rfl
theorem yE (n:Int) (l:List Int):aR (n :: l)=Nat.gcd (aR l) n.natAbs:=rfl
theorem SA (l:List Int) (i:Nat):aR l∣aR (l.drop i):=by
 induction l generalizing i with
 |nil=>simp
 |cons n l a=>
  cases i with
  |zero=>exact Nat.dvd_refl _
  |succ i=>rw[List.drop_succ_cons];exact Nat.dvd_trans (Nat.gcd_dvd_left _ _) (a i)
theorem yF {l:List Int} {n:Int} (h:n∈l):(aR l:Int)∣n:=by
 induction l with
 |nil=>cases h
 |cons m l a=>
  rw[yE];rcases List.mem_cons.1 h with rfl|h
  ·exact Int.ofNat_dvd_left.2 (Nat.gcd_dvd_right _ _)
  ·exact Int.dvd_trans (Int.natCast_dvd_natCast.2 (Nat.gcd_dvd_left _ _)) (a h)
theorem FF {l:List Int} (h:aR l=0):∀n∈l,n=0:=fun n hn=>by
 have:=yF hn;rw[h] at this;exact Int.zero_dvd.1 this
theorem yG {l:List Int} {d:Nat} (h:∀n∈l,(d:Int)∣n):d∣aR l:=by
 induction l with
 |nil=>simp[FE]
 |cons m l a=>exact Nat.dvd_gcd (a (fun n hn=>h n (List.mem_cons_of_mem _ hn))) (Int.ofNat_dvd_left.1 (h m (List.mem_cons_self ..)))
theorem lL {l:List Int} {K:Nat} (h:∀n∈l,nl n.natAbs<=K):nl (aR l)<=K:=by
 induction l with
 |nil=>rw[FE,dC];exact Nat.zero_le _
 |cons m l b=>
  rw[yE];by_cases a:m.natAbs=0
  ·rw[a,Nat.gcd_zero_right];exact b (fun n hn=>h n (List.mem_cons_of_mem _ hn))
  ·exact aG (bX (Nat.le_of_dvd (Nat.pos_of_ne_zero a) (Nat.gcd_dvd_right _ _))) (h m (List.mem_cons_self ..))
theorem SC {l:List Int} {i:Nat} {n:Int} (h:l[i]? =some n):Nat.gcd (aR (l.drop (i+1))) n.natAbs=aR (l.drop i):=by
 obtain⟨a,e⟩:=List.getElem?_eq_some_iff.1 h;rw[List.drop_eq_getElem_cons a,e,yE]
theorem FG (ns:List Int) (v:Value) (w:World) (J:Glob w) (hv:WholeAt w v ns) (K:Nat) (T:∀n∈ns,nl n.natAbs<=K) (U:5*K+4<=aI) (hl:ns.length<=1099511627776):
  Calls Tryz.prog 109 #[v] w (dB w (aR ns)):=by
 obtain⟨A,c,rfl,hc⟩:=hv.form;have ah:K<=17592186044416:=by unfold aI at U;omega
 have R:Bx ((w.alloc (.cells #[.bool false,.slice none 0 0] 59)).alloc (.cells #[.bool false,.slice none 0 0] 59)) (w.heap.size) [.bool false,.slice none 0 0] 59:=(Bx.newAt w [.bool false,.slice none 0 0] 59 (w.heap.size) (by simp)).alloc (.cells #[.bool false,.slice none 0 0] 59);have C:Bx ((w.alloc (.cells #[.bool false,.slice none 0 0] 59)).alloc (.cells #[.bool false,.slice none 0 0] 59)) (w.heap.size+1) [.bool false,.slice none 0 0] 59:=Bx.newAt (w.alloc (.cells #[.bool false,.slice none 0 0] 59)) [.bool false,.slice none 0 0] 59 (w.heap.size+1) (by simp);have a:Below w.heap.size w ((w.alloc (.cells #[.bool false,.slice none 0 0] 59)).alloc (.cells #[.bool false,.slice none 0 0] 59)):=((aH _ _).alloc (by simp) _).alloc (by simp<;>omega) _;go_enter Tryz.func109,Tryz.ntmps109;go_wp2_with fail;generalize (w.alloc (.cells #[.bool false,.slice none 0 0] 59)).alloc (.cells #[.bool false,.slice none 0 0] 59)=W at *;have S:IntBx W (w.heap.size+1) 0:=⟨_,_,_,_,C,IntAt.zero _⟩;clear C;go_loopg [4] ns.length (fun k i wr=>i= .int .i64 ((k:Int)-1)∧k<=ns.length∧IntBx wr (w.heap.size+1) (aR (ns.drop k))∧Bx wr w.heap.size [.bool false,.slice none 0 0] 59∧Below w.heap.size w wr)
 case atStart=>exact⟨by go_num,aE,by rw[List.drop_length];exact S,R,a⟩
 case round=>
  clear S R a;obtain⟨rfl,am,⟨s,B,l,d,C,f⟩,R,a⟩:=hrel;generalize wr=wy at *;have ac:nl (aR (ns.drop gk))<=K:=lL (fun n hn=>T n (List.mem_of_mem_drop hn));replace z:=C.cell 0 rfl;replace r:=C.free 0;replace D:=C.cell 1 rfl;replace t:=C.free 1;replace E:=R.cell 0 rfl;replace H:=R.free 0;replace F:=R.cell 1 rfl;replace I:=R.free 1;cases gk with
  |zero=>
   go_wp2_with fail;rw[List.drop_zero] at f;obtain⟨Q,p, -,M,o⟩:=gX (s:=s) (u:= .slice B l d) a (by omega) R;have O:=f.keep o;generalize (wy.setCell ⟨w.heap.size,0,none⟩ (.bool s)).setCell ⟨w.heap.size,1,none⟩ (.slice B l d)=W6 at *;exact aK (v:= .agg #[.bool s,.slice B l d]) (by simp[results,Tryz.results109,go_sem,Q,p]) rfl ⟨_,rfl,O,M⟩
  |succ k=>
   obtain⟨n,hn⟩:∃n,ns[k]? =some n:=⟨_,aL (by omega)⟩;have V:=SC hn;have ag:=T n (cH hn);have N:((aR (ns.drop (k+1)):Nat):Int)=1->aR ns=1:=fun h=>by
    have g:aR (ns.drop (k+1))=1:=by omega
    have:=SA ns (k+1);rw[g] at this;exact Nat.dvd_one.1 this
   have HN:=aB hn;have ab:=aB V;clear hn V;generalize aR (ns.drop (k+1))=G at *;have ak:(0:Int)<=(k:Int):=by omega
   go_wp2_with fail;refine(l7 _ _ _ f (by rw[cI];omega)).mono ?_;rintro e1 P ⟨rfl,e⟩;by_cases g:(G:Int)=1
   ·have m:decide ((G:Int)=1)=true:=by simpa using g
    have HO:=aB (N g);rw[m];clear m N;replace f:=f.below e;replace C:=C.below e;replace z:=C.cell 0 rfl;replace r:=C.free 0;replace D:=C.cell 1 rfl;replace t:=C.free 1;replace R:=R.below e;replace E:=R.cell 0 rfl;replace H:=R.free 0;replace F:=R.cell 1 rfl;replace I:=R.free 1;replace o:=Keep.below e;replace a:=aC a e;go_wp2_with fail;have ae:IntAt P (.agg #[.bool s,.slice B l d]) (aR ns:Int):=by rw[HO.out];rw[g] at f;exact f
    clear f;obtain⟨Q,p, -,M,o⟩:=gX (s:=s) (u:= .slice B l d) a (by omega) R;have O:=ae.keep o;generalize (P.setCell ⟨w.heap.size,0,none⟩ (.bool s)).setCell ⟨w.heap.size,1,none⟩ (.slice B l d)=W6 at *;exact aK (v:= .agg #[.bool s,.slice B l d]) (by simp[results,Tryz.results109,go_sem,Q,p]) rfl ⟨_,rfl,O,M⟩
   ·have m:decide ((G:Int)=1)=false:=by simpa using g
    rw[m];clear m N g;replace f:=f.below e;replace C:=C.below e;replace z:=C.cell 0 rfl;replace r:=C.free 0;replace D:=C.cell 1 rfl;replace t:=C.free 1;replace R:=R.below e;replace E:=R.cell 0 rfl;replace H:=R.free 0;replace F:=R.cell 1 rfl;replace I:=R.free 1;replace o:=Keep.below e;replace a:=aC a e;obtain⟨b,s',B',l',d',rfl,ai,g0,g1,ad⟩:=(hv.below a).at_ HN.out;have aj:=a.size;have Y:=f.drew;have af:=ad.drew;have y:IntBx P.drew (w.heap.size+1) (G:Int):=⟨_,_,_,_,C.drew,Y⟩;have j:=a.drew;have Rd:=R.drew;have X:=fun W v u J g x=>pW (G:Int) n v u W J g x K (by rw[cI];exact ac) ag U;rw[cI,ab.out] at X;have al:(k:Int)<(ns.length:Int):=by omega
    clear r t E F H I R C e;go_wp2_with fail
    go_region_with (first
     |(go_at_call 137;(with_reducible refine(X _ _ _ (J.below j) Y af).mono ?_);rintro e2 w2 ⟨v2,rfl,x,L⟩;obtain⟨s2,A2,k2,c2,rfl⟩:=x.form;replace y:=y.below L;replace Rd:=Rd.below L;replace j:=aC j L;obtain⟨s9,B9,l9,d9,q, -⟩:=id y;have z:=q.cell 0 rfl;have D:=q.cell 1 rfl;have r:=q.free 0;have t:=q.free 1))
    all_goals (
     go_wp2_with fail;obtain⟨p,Z⟩:=y.stored x;have zR:Bx _ w.heap.size [.bool false,.slice none 0 0] 59:=(Z.2.1 w.heap.size (by omega)).trans Rd;have zb:=fS j Z (by omega);go_roundg k
     case rel=>exact⟨by go_num,by omega,p,zR,zb⟩
     case measure=>omega)
def iA (ns:List Int) (x:Int):List Int:=ns.map (fun n=>n.tdiv x)
theorem SD (ns:List Int):iA ns 1=ns:=by
 unfold iA;exact(List.map_congr_left (fun a _=>Int.tdiv_one a)).trans (List.map_id ns)
theorem FH (ns:List Int) (x:Int):(iA ns x).length=ns.length:=bK _
theorem SE (n x:Int) (K:Nat) (h:nl n.natAbs<=K):nl (n.tdiv x).natAbs<=K:=by
 rw[Int.natAbs_tdiv];exact aG (bX (Nat.div_le_self _ _)) h
theorem SF {ns:List Int} {x:Int} {K:Nat} (h:∀n∈ns,nl n.natAbs<=K):∀n∈iA ns x,nl n.natAbs<=K:=fun n hn=>by
 unfold iA at hn;obtain⟨m,a,rfl⟩:=List.mem_map.1 hn;exact SE m x K (h m a)
theorem SG (ns:List Int) (x:Int) (v vx:Value) (w:World) (hv:WholeAt w v ns) (L:IntAt w vx x) (h0:ns≠[]->x≠0) (K:Nat) (hK:∀n∈ns,nl n.natAbs<=K) (au:nl x.natAbs<=K) (ak:5*K+4<=aI) (hl:ns.length<=1099511627776):
  Calls Tryz.prog 159 #[v,vx] w fun e w'=>∃v',e= .returned v'∧WholeAt w' v' (iA ns x)∧Below w.heap.size w w':=by
 unfold aI at ak;obtain⟨A,c,rfl,hc⟩:=hv.form;obtain⟨q,m,p,o,rfl⟩:=L.form;have f:Bx (w.alloc (.cells #[.bool q,.slice m p o] 59)) (w.heap.size) [.bool q,.slice m p o] 59:=Bx.newAt w [.bool q,.slice m p o] 59 (w.heap.size) (by simp);have a:Below w.heap.size w (w.alloc (.cells #[.bool q,.slice m p o] 59)):=(aH _ _).alloc (by simp) _;go_enter Tryz.func159,Tryz.ntmps159;go_wp2_with fail;generalize w.alloc (.cells #[.bool q,.slice m p o] 59)=W at *;refine(l7 x _ _ (L.below a) (by omega)).mono ?_;rintro e1 N ⟨rfl,G⟩;replace f:=f.below G;replace ad:=f.cell 0 rfl;replace ae:=f.cell 1 rfl;replace I:=Keep.below G;replace a:=aC a G;clear G;by_cases C:x=1
 ·have E:decide (x=1)=true:=by simpa using C
  rw[E];clear E;go_wp2_with fail;go_ret;rw[C,SD];exact⟨_,rfl,hv.below a,a⟩
 ·have E:decide (x=1)=false:=by simpa using C
  rw[E];clear E C;have ab:=FH ns x;have D:=aB ab;clear ab;go_wp2_with (at_make;refine gJ rfl rfl 59 _ 2 32 Tryz.underlying56 mN rfl (by decide) ns.length rfl rfl rfl rfl (by omega) (by omega) ?_;intro w2 an U t);have O:OwnW w2 N.heap.size (List.replicate ns.length 0):=OwnW.made U;have av:=a.size;have ar:w.heap.size<N.heap.size:=f.lt;replace f:=f.below t;replace a:=aC a t;clear U an t;generalize hg:N.heap.size=g at *;clear hg;go_loopg [16] ns.length (fun k i wr=>∃j,Hid (j+k=ns.length)∧i= .int .i64 j∧OwnW wr g ((iA ns x).take j++List.replicate k 0)∧Bx wr w.heap.size [.bool q,.slice m p o] 59∧Below w.heap.size w wr)
  case atStart=>exact⟨0,by unfold Hid;omega,rfl,by simpa using O,f,a⟩
  case round=>
   clear O f a;obtain⟨j,u,rfl,R,f,a⟩:=hrel;generalize wr=r at *;have ax:(0:Int)<=(j:Int):=by omega
   cases gk with
   |zero=>
    have hj:j=ns.length:=u.out;subst hj;rw[List.replicate_zero,List.append_nil,cA (by rw[D.out];exact aE)] at R;have Y:=R.whole ns.length (by rw[D.out];exact aE);rw[D.out] at Y;go_wp2_with fail;go_ret;exact⟨_,rfl,Y,a⟩
   |succ k=>
    obtain⟨n,hn⟩:∃n,ns[j]? =some n:=⟨_,aL (by have:=u.out;omega)⟩;obtain⟨b,s,B,l,d,rfl,aw,g0,g1,H⟩:=(hv.below a).at_ hn;have az:=hK n (cH hn);have am:x≠0:=h0 (fun e=>by rw[e] at hn;simp at hn);have ay:(j:Int)<(ns.length:Int):=by have:=u.out;omega
    have Z:(iA ns x)[j]? =some (n.tdiv x):=by unfold iA;rw[List.getElem?_map,hn];rfl
    have P:=lS (ys:=iA ns x) (z:=(0:Int)) (j:=j) (k:=k+1) (by rw[D.out];exact u.out);have Q:=lR (z:=(0:Int)) (k:=k) Z;have S:j<((iA ns x).take j++List.replicate (k+1) 0).length:=by rw[P,D.out];have:=u.out;omega
    have aj:=aB Q;clear Z P Q hn;have M:=L.below a;have J:=fun W C F=>nJ n x (.agg #[.bool s,.slice B l d]) (.agg #[.bool q,.slice m p o]) W C F am (by omega);unfold dB at J;generalize n.tdiv x=y at *;have af:∀h:Obj,(r.alloc h).cell? ⟨w.heap.size,0,none⟩=some (.bool q):=fun h=>(f.alloc h).cell 0 rfl;have ah:∀h:Obj,(r.alloc h).frozen? ⟨w.heap.size,0,none⟩=false:=fun h=>(f.alloc h).free 0;have ag:∀h:Obj,(r.alloc h).cell? ⟨w.heap.size,1,none⟩=some (.slice m p o):=fun h=>(f.alloc h).cell 1 rfl;have ai:∀h:Obj,(r.alloc h).frozen? ⟨w.heap.size,1,none⟩=false:=fun h=>(f.alloc h).free 1;go_wp2_with fail;replace R:=R.alloc (.cells #[.bool s,.slice B l d] 59);have ao:=f.lt;have a0:=a.size;replace f:=f.alloc (.cells #[.bool s,.slice B l d] 59);have X:=Bx.newAt r [.bool s,.slice B l d] 59 (r.heap.size) (by simp);replace a:=a.alloc a.size (.cells #[.bool s,.slice B l d] 59);replace I:=Keep.alloc r (.cells #[.bool s,.slice B l d] 59);replace H:=H.keep I;replace M:=M.keep I;generalize r.alloc (.cells #[.bool s,.slice B l d] 59)=W1 at *;replace ad:=f.cell 0 rfl;replace ae:=f.cell 1 rfl;replace ap:=X.cell 0 rfl;replace aq:=X.cell 1 rfl;clear af ag ah ai g0 g1;refine(J _ H M).mono ?_;rintro e2 w2 ⟨v2,rfl,F,t⟩;obtain⟨s2,A2,k2,c2,rfl⟩:=F.form;replace R:=R.below t;replace f:=f.below t;replace a:=aC a t;obtain⟨s',B',l',d',q0,q1, -⟩:=R.at_ (aL S);have f0:=R.free (j*2);have f1:=R.free (j*2+1);clear J;go_wp2_with fail;obtain⟨T,V⟩:=R.stored S F;rw[aj.out] at T;have ac:Bx _ w.heap.size [.bool q,.slice m p o] 59:=(V.2.1 w.heap.size (by omega)).trans f;have al:=fS a V (by omega);go_roundg k
    case rel=>exact⟨j+1,by have:=u.out;unfold Hid;omega,by go_num,T,ac,al⟩
    case measure=>omega
def aQ (ns:List Int):List Int:=iA ns (aR ns)
theorem cS (ns:List Int):(aQ ns).length=ns.length:=FH _ _
theorem kS {ns:List Int} (h:aO ns) (c:ns≠[]):(aR ns:Int)≠0:=fun e=>by
 obtain⟨a,b⟩:∃a,ns.getLast?=some a:=⟨_,List.getLast?_eq_some_getLast c⟩;exact h a b (FF (by omega) a (List.mem_of_getLast? b))
theorem fG {ns:List Int} {K:Nat} (h:∀n∈ns,nl n.natAbs<=K):∀n∈aQ ns,nl n.natAbs<=K:=SF h
theorem S7 (ns:List Int) (x:Int) (i:Nat):cf (iA ns x) i=(cf ns i).tdiv x:=rT (fun n:Int=>n.tdiv x) (Int.zero_tdiv x) ns i
theorem S8 {ns:List Int} {x:Int} (h:∀n∈ns,x∣n) (i:Nat):x∣cf ns i:=by
 by_cases a:i<ns.length
 ·rw[eJ a];exact h _ (List.getElem_mem a)
 ·rw[bZ (by omega)];exact Int.dvd_zero x
theorem iI (ns:List Int) (i:Nat):cf (aQ ns) i*(aR ns:Int)=cf ns i:=by
 unfold aQ;rw[S7];exact Int.tdiv_mul_cancel (S8 (fun n hn=>yF hn) i)
theorem fV {α:Type} [OfNat α 0] {l:List α} (f:l≠[]):aO l↔cf l (l.length-1)≠0:=by
 obtain⟨a,d⟩:∃a,l.getLast?=some a:=⟨_,List.getLast?_eq_some_getLast f⟩;have e:=rU d;constructor
 ·intro h;rw[e];exact h a d
 ·intro h b c;rw[d] at c;injection c with c;rw[<-c,<-e];exact h
theorem fK {ns:List Int} (h:aO ns):aO (aQ ns):=by
 by_cases b:ns=[]
 ·rw[b];intro a d;simp[aQ,iA] at d
 ·have c:aQ ns≠[]:=fun e=>b (bM (by rw[<-cS,e];rfl));rw[fV c,cS];intro e;have:=iI ns (ns.length-1);rw[e,Int.zero_mul] at this;exact(fV b).1 h this.symm
theorem mV (ns:List Int) (v:Value) (w:World) (k:Glob w) (hv:WholeAt w v ns) (m:aO ns) (K:Nat) (a:∀n∈ns,nl n.natAbs<=K) (f:5*K+4<=aI) (g:ns.length<=1099511627776):
  Calls Tryz.prog 86 #[v] w fun e w'=>∃h,e= .returned h∧WholeAt w' h (aQ ns)∧Below w.heap.size w w':=by
 obtain⟨A,c,rfl,s⟩:=hv.form;go_enter Tryz.func86,Tryz.ntmps86;go_wp2_with fail;refine(FG ns _ _ k hv K a f g).mono ?_;rintro q z ⟨x,rfl,d,b⟩;obtain⟨u,o,t,p,rfl⟩:=d.form;go_wp2_with fail;refine(SG ns (aR ns) _ _ _ (hv.below b) d (fun i=>kS m i) K a (by rw[cI];exact lL a) f g).mono ?_;rintro r B ⟨y,rfl,j,l⟩;go_wp2;go_ret;exact⟨_,rfl,j,aC b l⟩
def bA (ns:List Int):List Int:=(List.range (ns.length-1)).map (fun i:Nat=>cf ns (i+1)*((i:Int)+1))
theorem jF (ns:List Int):(bA ns).length=ns.length-1:=by unfold bA;rw[bK,List.length_range]
theorem S9 (ns:List Int) {i:Nat} (h:i<ns.length-1):(bA ns)[i]? =some (cf ns (i+1)*((i:Int)+1)):=by
 unfold bA;rw[List.getElem?_map,List.getElem?_range h];rfl
theorem pG (ns:List Int) (i:Nat):cf (bA ns) i=cf ns (i+1)*((i:Int)+1):=by
 unfold bA;rw[nA];split
 ·rfl
 ·rw[bZ (by omega),Int.zero_mul]
theorem yD (ns:List Int) (v:Value) (w:World) (hv:WholeAt w v ns) (K:Nat) (hK:∀n∈ns,nl n.natAbs<=K) (ab:K+2<=aI) (hl:ns.length<=1073741824):
  Calls Tryz.prog 53 #[v] w fun e w'=>∃X,e= .returned X∧WholeAt w' X (bA ns)∧Below w.heap.size w w':=by
 unfold aI at ab;obtain⟨A,c,rfl,hc⟩:=hv.form;go_enter Tryz.func53,Tryz.ntmps53;by_cases o:ns.length=0
 ·have V:((ns.length:Int)==0)=true:=by rw[o];rfl
  have O:ns=[]:=bM o;have HN:=aB O;clear O o;go_wp2_with fail;go_ret;rw[HN.out];exact⟨_,rfl,WholeAt.nil _ _ _,aH _ _⟩
 ·have V:((ns.length:Int)==0)=false:=by rw[beq_eq_false_iff_ne];omega
  obtain⟨M,hM⟩:∃M,ns.length=M+1:=⟨ns.length-1,by omega⟩;have af:(ns.length:Int)-1=(M:Int):=by omega
  have U:(bA ns).length=M:=by rw[jF];omega
  have h:=aB U;clear U o;go_wp2_with (at_make;refine gJ rfl rfl 59 _ 2 32 Tryz.underlying56 mN rfl (by decide) M rfl rfl (by first|rfl|omega) (by first|rfl|omega) (by omega) (by omega) ?_;intro Y ae S m);have D:OwnW Y w.heap.size (List.replicate M 0):=OwnW.made S;clear S ae;go_loopg [14] M (fun k i wr=>∃j,Hid (j+k=M)∧i= .int .i64 j∧OwnW wr w.heap.size ((bA ns).take j++List.replicate k 0)∧Below w.heap.size w wr)
  case atStart=>exact⟨0,by unfold Hid;omega,rfl,by simpa using D,m⟩
  case round=>
   clear D m;obtain⟨j,g,rfl,R,r⟩:=hrel;generalize wr=wy at *;have ag:(0:Int)<=(j:Int):=by omega
   cases gk with
   |zero=>
    have hj:j=M:=g.out;subst hj;rw[List.replicate_zero,List.append_nil,cA (by rw[h.out];exact aE)] at R;have T:=R.whole j (by rw[h.out];exact aE);rw[h.out] at T;go_wp2_with fail;go_ret;exact⟨_,rfl,T,r⟩
   |succ k=>
    have al:j<M:=by have:=g.out;omega
    obtain⟨n,hn⟩:∃n,ns[j+1]? =some n:=⟨_,aL (by omega)⟩;obtain⟨b,s,B,l,d,rfl,t,E,F,L⟩:=(hv.below r).at_ hn;have an:=hK n (cH hn);have G:cf ns (j+1)=n:=oM hn;have ah:(j:Int)<(M:Int):=by omega
    have aj:(j:Int)+1<(ns.length:Int):=by omega
    have ak:(0:Int)<=(j:Int)+1:=by omega
    have C:=S9 ns (i:=j) (by omega);rw[G] at C;have H:=lS (ys:=bA ns) (z:=(0:Int)) (j:=j) (k:=k+1) (by rw[h.out];exact g.out);have I:=lR (z:=(0:Int)) (k:=k) C;have J:j<((bA ns).take j++List.replicate (k+1) 0).length:=by rw[H,h.out];have:=g.out;omega
    have Z:=aB I;clear C H I hn G;have ai:nl ((j:Int)+1).natAbs<=1:=bW (by rw[show((j:Int)+1).natAbs=j+1 by omega];unfold BN;omega);have P:=fun W=>iM ((j:Int)+1) W (by omega) (by omega);have N:=fun W v u h1 q=>iN n ((j:Int)+1) v u W h1 q (by omega);unfold dB at N P;generalize n*((j:Int)+1)=y at *;have x:=L.drew;have Rd:=R.drew;have a:=r.drew;have am:((j:Int)+1).toNat=j+1:=by omega
    have ao:IntKind.i64.wrap ((j:Int)+1)=(j:Int)+1:=by rw[IntKind.wrap_i64];omega
    clear L R r;go_wp2_with fail
    go_region_with (first
     |(go_at_call 69;(with_reducible refine(P _).mono ?_);rintro e3 w3 ⟨v3,rfl,h3,f⟩;replace x:=x.below f;replace Rd:=Rd.below f;replace a:=aC a f;(try replace E:=(f.cell (p:=⟨b,(j+1)*2,none⟩) t).trans E);(try replace F:=(f.cell (p:=⟨b,(j+1)*2+1,none⟩) t).trans F);replace t:=aU t f.size)
     |(go_at_call 110;(with_reducible refine(N _ _ _ x h3).mono ?_);rintro e2 Y ⟨v2,rfl,q,m⟩;obtain⟨s2,A2,k2,c2,rfl⟩:=q.form;replace Rd:=Rd.below m;replace a:=aC a m;obtain⟨s',B',l',d',V,q1, -⟩:=Rd.at_ (aL J);have f0:=Rd.free (j*2);have f1:=Rd.free (j*2+1)))
    all_goals (
     go_wp2_with fail;obtain⟨Q,ad⟩:=Rd.stored J q;rw[Z.out] at Q;have ac:=fS a ad (by omega);go_roundg k
     case rel=>exact⟨j+1,by have:=g.out;unfold Hid;omega,by go_num,Q,ac⟩
     case measure=>omega)
theorem y5 (p:List Rat) (i:Nat):cf (eR p) i=cf p (i+1)*((i+1:Nat):Rat):=by
 unfold eR;rw[nA];split
 ·rfl
 ·rw[bZ (l:=p) (by omega),Rat.zero_mul]
theorem o6 {ns:List Int} {K:Nat} (a:∀n∈ns,nl n.natAbs<=K) (b:ns.length<=1073741824):∀n∈bA ns,nl n.natAbs<=K+1:=fun n hn=>by
 unfold bA at hn;obtain⟨i,hi,rfl⟩:=List.mem_map.1 hn;have:=List.mem_range.1 hi;exact gL _ _ _ _ (gF a _) (bW (by rw[show((i:Int)+1).natAbs=i+1 by omega];unfold BN;omega))
abbrev R2 (w:World) (b o:Nat) (a c:Value):Prop:=w.cell? ⟨b,o,none⟩=some a∧w.cell? ⟨b,o+1,none⟩=some c
theorem R2.up {a b:World} [u:Up a b] {g o:Nat} {d e:Value} (h:R2 a g o d e) (c:g<a.heap.size):R2 b g o d e:=⟨(u.out.cell (p:=⟨g,o,none⟩) c).trans h.1,(u.out.cell (p:=⟨g,o+1,none⟩) c).trans h.2⟩
theorem xY {ns:List Int} {a b:Int} {T:Nat} (hn:∀n∈ns,n.natAbs<=T) (j:a.natAbs<=T) (k:b.natAbs<=T):(eT ns a b).natAbs<=ns.length*T^ns.length∧(gM ns a b).natAbs<=T^ns.length:=by
 induction ns with
 |nil=>exact⟨by show(0:Int).natAbs<=_;simp,by show(1:Int).natAbs<=_;simp⟩
 |cons c ns o=>
  obtain⟨i,d⟩:=o (fun n m=>hn n (List.mem_cons_of_mem _ m));have g:eT (c :: ns) a b=eT ns a b*a+c*gM ns a b:=rfl;have h:gM (c :: ns) a b=gM ns a b*b:=rfl;have l:=hn c (List.mem_cons_self ..);have e:=Nat.mul_le_mul i j;have f:=Nat.mul_le_mul l d;have p:=Nat.mul_le_mul d k;rw[g,h,List.length_cons];constructor
  ·refine aG (Int.natAbs_add_le _ _) ?_;rw[Int.natAbs_mul,Int.natAbs_mul,Nat.succ_mul,cU];rw[Nat.mul_assoc] at e;rw[dD T] at f;exact Nat.add_le_add e f
  ·rw[Int.natAbs_mul,cU];exact p
theorem xZ {t K:Nat} (h:t<=65):t*(BN^K)^t<BN^(K*t+1)∧(BN^K)^t<BN^(K*t+1):=by
 rw[<-Nat.pow_mul,cU,dD _ BN];have a:0<BN^(K*t):=Nat.pow_pos (by decide);exact⟨Nat.mul_lt_mul_of_pos_right (Nat.lt_of_le_of_lt h (by decide)) a,by have:=Nat.mul_lt_mul_of_pos_right (show 1<BN by decide) a;rwa [Nat.one_mul] at this⟩
theorem mD {n K:Nat} (h:nl n<=K):n<=BN^K:=Nat.le_of_lt (aU (cJ n) (cE (by decide) h))
theorem EZ (ns:List Int) (x:Rat) (v vx:Value) (w:World) (hv:WholeAt w v ns) (G:RatAt w vx x) (K:Nat) (hK:∀n∈ns,nl n.natAbs<=K) (H:RL K x) (hl:ns.length<=65) (bf:140*K+10<=17592186044416):
  Calls Tryz.prog 75 #[v,vx] w (dB w (eT ns x.num x.den)):=by
 obtain⟨A,c,rfl,hc⟩:=hv.form;obtain⟨s1,A1,k1,c1,s2,I,k2,J,rfl⟩:=G.form;have ah:=fun W h=>Q8 x (.agg #[.bool s1,.slice A1 k1 c1,.bool s2,.slice I k2 J]) W h;have af:=fun W h=>qS x (.agg #[.bool s1,.slice A1 k1 c1,.bool s2,.slice I k2 J]) W h (aG H.2 (by omega));unfold dB at ah af;have ka:=H.1;have kb:nl (x.den:Int).natAbs<=K:=H.2;obtain⟨W,eW,d,X,R,V⟩:=fF w [.bool s1,.slice A1 k1 c1,.bool s2,.slice I k2 J] 66 [.bool false,.slice none 0 0] 59 [.bool false,.slice none 0 0] 59;have q:=aa X.g4 (aa R.g2 V.g2);go_enter Tryz.func75,Tryz.ntmps75;go_wp2_with fail;(try rw[eW]);clear eW;replace G:=G.below d;generalize x.num=a at *;generalize (x.den:Int)=b at *;clear H;have bc:=X.lt;go_cut [6,7] (fun s6 s7 p=>∃g6 g7,s6= .pointer (some ⟨g6,0,none⟩)∧s7= .pointer (some ⟨g7,0,none⟩)∧W.heap.size<=g6∧W.heap.size<=g7∧g6≠g7∧IntBx p g6 (a)∧IntBx p g7 (b)∧Below W.heap.size W p)
 case first=>
  go_region_held3 (fun y=>y.cell? ⟨w.heap.size,0,none⟩=some (.bool s1)∧y.cell? ⟨w.heap.size,1,none⟩=some (.slice A1 k1 c1)∧y.cell? ⟨w.heap.size,2,none⟩=some (.bool s2)∧y.cell? ⟨w.heap.size,3,none⟩=some (.slice I k2 J))
   (with_reducible exact⟨X.up.cell 0 rfl,X.up.cell 1 rfl,X.up.cell 2 rfl,X.up.cell 3 rfl⟩)
   (first
    |(go_at_call 144;(with_reducible refine(ah _ G.up).mono ?_);rintro e2 w2 ⟨v2,rfl,h2,ab⟩;have l2:=ab.size;(try simp at l2);have:=St.mk ab;obtain⟨s2,I,k2,J,rfl⟩:=h2.form)
    |(go_at_call 121;(with_reducible refine(af _ G.up).mono ?_);rintro e3 j ⟨v3,rfl,l,ac⟩;have l3:=ac.size;(try simp at l3);have:=St.mk ac;have C:=Up.out (a:=W) (b:=j);have bn:=C.size;have U:=h2.up (b:=j);(try have⟨_,_,_,_,_⟩:=pE W j);(try have⟨_,_,_,_,_⟩:=pF W j);(try have⟨_,_,_,_,_⟩:=pE w2 j);(try have⟨_,_,_,_,_⟩:=pF w2 j);obtain⟨s3,A3,k3,c3,rfl⟩:=l.form))
  all_goals (
   go_wp2_with fail;go_meet;refine⟨_,_,rfl,rfl,by omega,by omega,by omega,?_⟩
   first
    |(with_reducible exact tS U l C)
    |(with_reducible exact xS U l C)
    |(with_reducible exact xT U l (zb ‹_›) C (by omega))
    |(with_reducible exact xU (zb ‹_›) U l C (by omega))
    |(with_reducible exact tR (zb ‹_›) (zb ‹_›) U l (by omega) C (by omega) (by omega)))
 case rest=>
  obtain⟨gn,gd,rfl,rfl,a8,a7,bh,e,f,F⟩:=hcut;have a5:w.heap.size+1+1<W.heap.size:=V.lt;replace R:=R.below F;replace V:=V.below F;replace d:=aC d F;have bb:=e.lt;have a6:=f.lt;clear ah af G F X q;have q:=aa R.g2 V.g2;go_wp2_with fail;refine(iM 1 _ (by decide) (by decide)).mono ?_;rintro e4 w4 ⟨v4,rfl,h4,s⟩;obtain⟨s4,A4,k4,c4,rfl⟩:=h4.form;obtain⟨W5,aq,m,P⟩:=bB w4 [.bool s4,.slice A4 k4 c4] 59;have ba:=s.size;replace R:=(R.below s).below m;replace V:=(V.below s).below m;replace e:=(e.below s).below m;replace f:=(f.below s).below m;replace h4:=h4.below m;replace d:=(aC d s).trans (m.mono (aC d s).size);replace q:=aa R.g2 (aa V.g2 P.g2);go_wp2_with fail;(try rw[aq]);clear aq;generalize w4.heap.size=O at *;have n1:gn≠O:=by omega
  have n2:gd≠O:=by omega
  have n3:w.heap.size+1+1<gn:=by omega
  have n4:w.heap.size+1+1<gd:=by omega
  have n5:w.heap.size+1+1<O:=by omega
  clear ba bb a6 a8 a7 a5 s m;go_loopg [9] ns.length (fun k i wr=>∃z:Int,Hid (z=(k:Int)-1)∧i= .int .i64 z∧k<=ns.length∧Bx wr (w.heap.size+1) [.bool false,.slice none 0 0] 59∧IntBx wr (w.heap.size+1+1) (eT (ns.drop k) a b)∧IntBx wr gn a∧IntBx wr gd b∧IntBx wr O (gM (ns.drop k) a b)∧Below w.heap.size w wr)
  case atStart=>exact⟨(ns.length:Int)-1,rfl,rfl,aE,R,⟨_,_,_,_,V,by rw[List.drop_length];exact IntAt.zero _⟩,e,f,⟨_,_,_,_,P,by rw[List.drop_length];exact h4⟩,d⟩
  case round=>
   clear R V P e f h4 d q;obtain⟨z,HZ,rfl,g,R,⟨s5,A5,k5,c5,V,E⟩,⟨s6,A6,k6,c6,N,e⟩,⟨s7,A7,k7,c7,D,f⟩,⟨s8,A8,k8,c8,P,r⟩,d⟩:=hrel;generalize wr=p at *;have q:=aa R.g2 (aa V.g2 (aa N.k2 (aa D.k2 P.g2)));cases gk with
   |zero=>
    have hz:z<0:=by have:=HZ.out;omega
    have bm:¬0<=z:=by omega
    rw[List.drop_zero] at E;clear r HZ;go_wp2_with fail;have an:=R.lt;have ao:=V.lt;have al:=N.lt;have ak:=D.lt;have am:=P.lt;have az:=d.size;obtain⟨W6,L,R,d,g,o⟩:=R.put2 d (by omega) (.bool s5) (.slice A5 k5 c5) rfl rfl;replace V:=o V (by omega);replace N:=o N (by omega);replace D:=o D (by omega);replace P:=o P (by omega);replace E:=E.keep g;rw[L];clear L;replace q:=aa R.k2 (aa V.k2 (aa N.k2 (aa D.k2 P.k2)));exact aK (v:= .agg #[.bool s5,.slice A5 k5 c5]) (by simp[results,Tryz.results75,go_sem,R.k2]) rfl ⟨_,rfl,E,d⟩
   |succ k=>
    obtain rfl:z=(k:Int):=by have:=HZ.out;omega
    obtain⟨n,hn⟩:∃n,ns[k]? =some n:=⟨_,aL (by omega)⟩;obtain⟨B,s9,A9,k9,c9,rfl,av,g0,g1,hi⟩:=(hv.below d).at_ hn;have bj:(k:Int)<(ns.length:Int):=by omega
    have bi:(0:Int)<=(k:Int):=by omega
    obtain⟨a1,a2⟩:=S4 a b hn;have ad:=xY (ns:=ns.drop (k+1)) (a:=a) (b:=b) (T:=BN^K) (fun n h=>mD (hK n (List.mem_of_mem_drop h))) (mD ka) (mD kb);have bk:=hK n (cH hn);obtain⟨t,ht⟩:∃t,(ns.drop (k+1)).length=t:=⟨_,rfl⟩;have a0:t<=65:=by rw[<-ht,List.length_drop];omega
    rw[ht] at ad;obtain⟨a3,a4⟩:=xZ (K:=K) a0;have a9:K*t<=65*K:=by rw[dD];exact cZ _ a0
    have HV:Hid (0+eT (ns.drop (k+1)) a b*a+n*gM (ns.drop (k+1)) a b=eT (ns.drop k) a b):=by unfold Hid;rw[a1,Int.zero_add]
    have HP:=aB a2;obtain⟨Y',hY⟩:∃Y',eT (ns.drop k) a b=Y':=⟨_,rfl⟩;rw[hY] at HV;have HY:=aB hY;clear a1 a2 ht hn hY;generalize eT (ns.drop (k+1)) a b=Y at *;generalize gM (ns.drop (k+1)) a b=Q at *;have lY:nl Y.natAbs<=K*t+1:=bW (Nat.lt_of_le_of_lt ad.1 a3);have lQ:nl Q.natAbs<=K*t+1:=bW (Nat.lt_of_le_of_lt ad.2 a4);have m1:Y.natAbs*a.natAbs<BN^(K*t+1+K):=by
     have S:=cJ (Y.natAbs*a.natAbs);exact aU S (cE (by decide) (aG (dJ _ _) (Nat.add_le_add lY ka)))
    have m2:n.natAbs*Q.natAbs<BN^(K*t+1+K):=by
     have S:=cJ (n.natAbs*Q.natAbs);exact aU S (cE (by decide) (aG (dJ _ _) (by omega)))
    have m3:BN^(K*t+1+K)*BN<=BN^(67*K+3):=by rw[<-cU];exact cE (by decide) (by omega)
    have m4:2*BN^(K*t+1+K)<=BN^(K*t+1+K)*BN:=by rw[dD];exact dL _ (by decide)
    obtain⟨ws,es,aw, -⟩:=bB p [.slice none 0 0,.slice none 0 0] 163;have ae:=(SumAt.new p (67*K+3)).now;have ax:p.alloc (.cells #[.slice none 0 0,.slice none 0 0] 163)=ws:=es;rw[ax] at ae;have:=St.mk aw;have ay:=rZ p.heap.size ws.heap.size (67*K+3) 0 0 Y a s5 A5 k5 c5 s6 A6 k6 c6 ws ae E.up e.up E.blk e.blk (by omega) (by unfold aI;omega) (by omega);have ai:=fun W Z h S h2=>rZ p.heap.size Z (67*K+3) (0+Y.natAbs*a.natAbs) (0+Y*a) n Q s9 A9 k9 c9 s8 A8 k8 c8 W h S h2 hi.blk r.blk (by omega) (by unfold aI;omega) (by omega);have aj:=fun W Z M h=>vR p.heap.size Z (67*K+3) M Y' W h (by unfold aI;omega);have ag:=fun W v u h h'=>iN Q b v u W h h' (by omega);rw[HV.out] at ai;unfold dB at aj ag;have gr:R2 p B (k*2) (.bool s9) (.slice A9 k9 c9):=⟨g0,g1⟩;clear ae ad a3 a4 m1 m2 m3 m4 lY lQ a9 ax g0 g1;have cX:=aa (V.up (b:=ws)).k2 (N.up (b:=ws)).k2;go_wp2_with fail;(try rw[es]);clear es;refine ay.mono ?_;rintro e1 w1 ⟨rfl,ar,F, -⟩;have:=St.mk (aw.trans F);have bg:=av;clear ay;go_wp2_with fail
    go_region_held3 (fun y=>R2 y B (k*2) (.bool s9) (.slice A9 k9 c9)∧C2 y O (.bool s8) (.slice A8 k8 c8)) (with_reducible exact⟨gr.up av,P.up.k2⟩)
     (first
      |(go_at_call 115;(with_reducible refine(ai _ _ (ar.below Up.out) hi.up r.up).mono ?_);rintro e2 w2 ⟨rfl,au,ab, -⟩;have:=St.mk ((Up.out (a:=p)).trans ab)))
    all_goals (
     clear ai ar cX;go_wp2_with fail;refine(aj _ _ _ au).mono ?_;rintro e3 j ⟨v3,rfl,l,ac⟩;obtain⟨s3,A3,k3,c3,rfl⟩:=l.form;have:=St.mk ac;replace R:=R.up (b:=j);replace V:=V.up (b:=j);replace N:=N.up (b:=j);replace D:=D.up (b:=j);replace P:=P.up (b:=j);replace e:=e.up (b:=j);replace f:=f.up (b:=j);replace r:=r.up (b:=j);replace d:=eG (b:=j) d;replace q:=aa R.g2 (aa V.g2 (aa N.k2 (aa D.k2 P.g2)));clear aj au;go_wp2_with fail;have an:=R.lt;have ao:=V.lt;have al:=N.lt;have ak:=D.lt;have am:=P.lt;have az:=d.size;obtain⟨W4,ap,V,d,g,o⟩:=V.put2 d (by omega) (.bool s3) (.slice A3 k3 c3) rfl rfl;replace R:=o R (by omega);replace N:=o N (by omega);replace D:=o D (by omega);replace P:=o P (by omega);replace l:=l.keep g;replace e:=e.keep g;replace f:=f.keep g;replace r:=r.keep g;rw[ap];clear ap;replace q:=aa R.g2 (aa V.g2 (aa N.k2 (aa D.k2 P.g2)));refine(ag _ _ _ r f).mono ?_;rintro e5 w5 ⟨v5,rfl,h5,m⟩;obtain⟨sx,Ax,H,cx,rfl⟩:=h5.form;replace R:=R.below m;replace V:=V.below m;replace N:=N.below m;replace D:=D.below m;replace P:=P.below m;replace q:=aa R.g2 (aa V.g2 (aa N.k2 (aa D.k2 P.g2)));replace g:=Keep.below m;replace l:=l.keep g;replace e:=e.keep g;replace f:=f.keep g;replace d:=aC d m;clear ag;go_wp2_with fail;have an:=R.lt;have ao:=V.lt;have al:=N.lt;have ak:=D.lt;have am:=P.lt;have az:=d.size;obtain⟨W6,L,P,d,g,o⟩:=P.put2 d (by omega) (.bool sx) (.slice Ax H cx) rfl rfl;replace R:=o R (by omega);replace V:=o V (by omega);replace N:=o N (by omega);replace D:=o D (by omega);replace h5:=h5.keep g;replace l:=l.keep g;replace e:=e.keep g;replace f:=f.keep g;rw[L];clear L;replace q:=aa R.k2 (aa V.k2 (aa N.k2 (aa D.k2 P.k2)));go_roundg k
     case rel=>exact⟨(k:Int)-1,rfl,by first|rfl|go_num,by omega,R,⟨_,_,_,_,V,by rw[HY.out];exact l⟩,⟨_,_,_,_,N,e⟩,⟨_,_,_,_,D,f⟩,⟨_,_,_,_,P,by rw[HP.out];exact h5⟩,d⟩
     case measure=>omega)
theorem yT (a:List Rat) (k i:Nat):cf (a++List.replicate k 0) i=cf a i:=by
 by_cases h:i<a.length
 ·rw[eJ (l:=a) h,oM (a:=a[i])];rw[f8 h,aL h]
 ·rw[bZ (l:=a) (by omega)];by_cases b:i<a.length+k
  ·refine oM ?_;rw[dS (by omega),List.getElem?_replicate,if_pos (by omega)]
  ·exact bZ (by rw[aY,cN];omega)
end Go.Proofs.YthfnenohhindpaaGreatDoor
namespace Go.Proofs.YthfnenohhindpaaGreatDoor
open Sos
def fH (l:List Rat) (g:Nat->Rat) (i k:Nat):List Rat:=(List.range l.length).map (fun j=>if i<=j∧j<i+k then g j else cf l j)
theorem kU {a b:List Rat} (e:a.length=b.length) (h:∀j,cf a j=cf b j):a=b:=List.ext_getElem e (fun j c d=>by have:=h j;rwa [eJ c,eJ d] at this)
theorem yQ {l:List Rat} {i:Nat} {x:Rat} (h:i<l.length) (j:Nat):cf (l.set i x) j=if j=i then x else cf l j:=by
 by_cases e:j=i
 ·subst e;rw[if_pos rfl];exact oM (by rw[List.getElem?_set_self h])
 ·rw[if_neg e];unfold cf;rw[dF,dF,List.getElem?_set_ne (fun h=>e h.symm)]
section
variable {l:List Rat} {g:Nat->Rat} {i k:Nat}
theorem lN:(fH l g i k).length=l.length:=by unfold fH;rw[bK,List.length_range]
theorem pH (j:Nat):cf (fH l g i k) j=if i<=j∧j<i+k∧j<l.length then g j else cf l j:=by
 unfold fH;rw[nA];by_cases h:j<l.length
 ·rw[if_pos h];by_cases a:i<=j∧j<i+k
  ·rw[if_pos a,if_pos ⟨a.1,a.2,h⟩]
  ·rw[if_neg a,if_neg (fun b=>a ⟨b.1,b.2.1⟩)]
 ·rw[if_neg h,if_neg (fun b=>h b.2.2),bZ (by omega)]
theorem FK:fH l g i 0=l:=kU lN (fun j=>by rw[pH,if_neg (by omega)])
theorem SY (h:i+k<l.length):(fH l g i k)[i+k]? =some (cf l (i+k)):=by
 have a:i+k<(fH l g i k).length:=by rw[lN];exact h
 rw[aL a,<-eJ a,pH,if_neg (by omega)]
theorem SZ (h:i+k<l.length):(fH l g i k).set (i+k) (g (i+k))=fH l g i (k+1):=
 kU (by rw[List.length_set,lN,lN]) (fun j=>by
  rw[yQ (by rw[lN];exact h),pH,pH];by_cases e:j=i+k
  ·rw[if_pos e,if_pos (by omega),e]
  ·rw[if_neg e];by_cases a:i<=j∧j<i+k∧j<l.length
   ·rw[if_pos a,if_pos (by omega)]
   ·rw[if_neg a,if_neg (by omega)])
theorem FL {K:Nat} (d:∀q∈l,RL K q) (c:∀j,RL K (g j)) (b:1<=K):∀q∈fH l g i k,RL K q:=fun q a=>by
 unfold fH at a;obtain⟨j,_,rfl⟩:=List.mem_map.1 a;split
 ·exact c j
 ·exact jE d (fU b) j
end
theorem yR {l:List Rat} {K L:Nat} (h:∀q∈l,RL K q) (a:K<=L):∀q∈l,RL L q:=fun q b=>bU (h q b) a
theorem FM (n:Nat):∀q∈List.replicate n (0:Rat),RL 1 q:=fun q a=>by rw[(List.mem_replicate.1 a).2];exact fU (jX 1)
theorem T0 {a:List Rat} {K:Nat} (h:∀q∈a,RL K q) (c:1<=K) (n:Nat):∀q∈a++List.replicate n 0,RL K q:=fun q b=>by
 rcases List.mem_append.1 b with b|b
 ·exact h q b
 ·exact bU (FM n q b) c
def lO (a:List Rat) (c:Rat) (b:List Rat):List Rat:=(List.range (max a.length b.length)).map (fun i=>cf a i+c*cf b i)
theorem uE (a:List Rat) (c:Rat) (b:List Rat) (i:Nat):cf (lO a c b) i=cf a i+c*cf b i:=by
 unfold lO;rw[nA];split
 ·rfl
 ·rw[bZ (l:=a) (by omega),bZ (l:=b) (by omega),Rat.mul_zero,Rat.add_zero]
theorem T3 (a:List Rat) (c:Rat) (b:List Rat):aX aW (fH (a++List.replicate (max a.length b.length-a.length) 0) (fun j=>cf a j+c*cf b j) 0 b.length)=aX aW (lO a c b):=
 mL (iX _) (iX _) (fun j=>by
  rw[iY,iY,uE,pH,yT,aY,cN];split
  ·rfl
  ·rename_i h;by_cases d:j<b.length
   ·exact absurd ⟨Nat.zero_le _,by omega,by omega⟩ h
   ·rw[bZ (l:=b) (by omega),Rat.mul_zero,Rat.add_zero])
theorem T4 {a b:List Rat} {c:Rat} {K L:Nat} (e:∀q∈a,RL K q) (f:∀q∈b,RL K q) (h:RL L c) (d:1<=K) (j:Nat):RL (2*K+L+1) (cf a j+c*cf b j):=
 bU (yB (jE e (fU d) j) (jD h (jE f (fU d) j))) (by omega)
structure DivQ (A B Q R:List Rat):Prop where
 id_:∀i,conv (cf Q) (cf B) i+cf R i=cf A i
 q_trim:aO Q
 r_trim:aO R
 r_lt:R.length<B.length
structure DivJ (A B Q R:List Rat) (i:Nat):Prop where
 id_:∀j,conv (cf Q) (cf B) j+cf R j=cf A j
 q0:∀j,j<i->cf Q j=0
 r0:∀j,i+B.length<=j+1->cf R j=0
theorem DivJ.start (A B:List Rat) (h:B.length<=A.length):DivJ A B (List.replicate (A.length-B.length+1) 0) A (A.length-B.length+1):=
 have a:∀j,cf (List.replicate (A.length-B.length+1) (0:Rat)) j=0:=fun j=>by
  have:=yT [] (A.length-B.length+1) j;rw[List.nil_append,fM] at this;exact this
 ⟨fun j=>by rw[kE a,Rat.zero_add],fun j _=>a j,fun j b=>bZ (by omega)⟩
theorem DivJ.step {A B Q R:List Rat} {i:Nat} (h:DivJ A B Q R (i+1)) (m:cf B (B.length-1)≠0) (hn:1<=B.length) (c:i<Q.length) (p:i+B.length<=R.length) {f:Rat} (n:f=cf R (i+B.length-1)/cf B (B.length-1)):
  DivJ A B (Q.set i f) (fH R (fun j=>cf R j-f*cf B (j-i)) i B.length) i:=by
 have d:∀j,cf (fH R (fun j=>cf R j-f*cf B (j-i)) i B.length) j=cf R j-(if i<=j then f*cf B (j-i) else 0):=fun j=>by
  rw[pH];by_cases a:i<=j∧j<i+B.length∧j<R.length
  ·rw[if_pos a,if_pos a.1]
  ·rw[if_neg a];by_cases b:i<=j
   ·rw[if_pos b,bZ (l:=B) (by omega)];grind
   ·rw[if_neg b];grind
 refine⟨fun j=> ?_,fun j o=> ?_,fun j o=> ?_⟩
 ·have e:conv (cf (Q.set i f)) (cf B) j=conv (cf Q) (cf B) j+conv (fun k=>if k=i then f else 0) (cf B) j:=by
   rw[<-nD];refine fR (fun k=> ?_) (fun _=>rfl) j;rw[yQ c];by_cases e:k=i
   ·rw[if_pos e,if_pos e,h.q0 k (by omega),Rat.zero_add]
   ·rw[if_neg e,if_neg e,Rat.add_zero]
  rw[e,nI,d,<-h.id_ j];grind
 ·rw[yQ c,if_neg (by omega)];exact h.q0 j (by omega)
 ·rw[d,if_pos (by omega)];by_cases e:j=i+B.length-1
  ·subst e;rw[show i+B.length-1-i=B.length-1 by omega,n,Rat.div_mul_cancel m];grind
  ·rw[h.r0 j (by omega),bZ (l:=B) (by omega)];grind
theorem T5 {l:List Rat} {n:Nat} (h:∀j,n<=j->cf l j=0):(aX aW l).length<=n:=by
 rcases Nat.lt_or_ge n (aX aW l).length with a|a
 ·exfalso;have d:aX aW l≠[]:=by intro e;rw[e] at a;simp at a
  have b:=List.getLast?_eq_some_getLast d;have c:=rU b;rw[iY,h _ (by omega)] at c;exact iX l _ b c.symm
 ·exact a
theorem DivJ.done {A B Q R:List Rat} (h:DivJ A B Q R 0) (hn:1<=B.length):DivQ A B (aX aW Q) (aX aW R):=
 ⟨fun j=>by rw[fR (iY Q) (fun _=>rfl) j,iY];exact h.id_ j,iX _,iX _,by
  have:=T5 (l:=R) (n:=B.length-1) (fun j a=>h.r0 j (by omega));omega⟩
theorem DivQ.short {A B:List Rat} (h:A.length<B.length):DivQ A B [] (aX aW A):=
 ⟨fun j=>by rw[kE (fun k=>fM k),iY,Rat.zero_add],fun a b=>by simp at b,iX _,Nat.lt_of_le_of_lt (mK _ _) h⟩
theorem T6 {d:Nat->Rat} {ys:List Rat} {L:Nat} (f:cf ys (ys.length-1)≠0) (hn:1<=ys.length) (b:∀i,L<=i->d i=0) (h:∀i,ys.length<=i+1->conv d (cf ys) i=0):∀i,d i=0:=by
 induction L with
 |zero=>exact fun i=>b i (Nat.zero_le _)
 |succ L s=>
  refine s (fun i t=> ?_);by_cases o:L+1<=i
  ·exact b i o
  ·have e:i=L:=by omega
   subst e;have c:=pU (p:=d) (q:=cf ys) (m:=i) (n:=ys.length-1) (fun j r=>b j (by omega)) (fun j r=>bZ (by omega));rw[h _ (by omega)] at c;rcases Rat.mul_eq_zero.1 c.symm with a|a
   ·exact a
   ·exact absurd a f
theorem DivQ.unique {A B Q R Q' b:List Rat} (h:DivQ A B Q R) (a:DivQ A B Q' b) (f:cf B (B.length-1)≠0) (hn:1<=B.length):Q=Q'∧R=b:=by
 have c:∀i,conv (fun k=>cf Q k+(-1)*cf Q' k) (cf B) i=cf b i-cf R i:=fun i=>by
  rw[nD,iZ];have m:=h.id_ i;have n:=a.id_ i;grind
 have e:=T6 (d:=fun k=>cf Q k+(-1)*cf Q' k) (L:=Q.length+Q'.length) f hn (fun i j=>by show cf Q i+(-1)*cf Q' i=0;rw[bZ (by omega),bZ (by omega)];grind) (fun i j=>by rw[c,bZ (by have:=a.r_lt;omega),bZ (by have:=h.r_lt;omega)];grind);refine⟨mL h.q_trim a.q_trim (fun i=> ?_),mL h.r_trim a.r_trim (fun i=> ?_)⟩
 ·have:=e i;grind
 ·have:=c i;rw[kE e] at this;grind
def iJ (K:Nat):Nat->Nat
 |0=>K
 |n+1=>2*iJ K n+2*K+1
theorem FN (K n:Nat):iJ K n+(2*K+1)=2^n*(3*K+1):=by
 induction n with
 |zero=>simp[iJ];omega
 |succ n a=>
  rw[iJ,cU,dD (2^n) 2,Nat.mul_assoc,<-a];omega
theorem r5 (K:Nat) {m n:Nat} (h:m<=n):iJ K m<=iJ K n:=by
 induction h with
 |refl=>exact aE
 |step _ a=>rw[iJ];omega
theorem yS (K n:Nat):K<=iJ K n:=r5 K (Nat.zero_le n)
end Go.Proofs.YthfnenohhindpaaGreatDoor
namespace Go.Proofs.YthfnenohhindpaaGreatDoor
open Go.RowKit Sos
theorem PQRes.mono {xs ys q r:List Int} {m:Int} {b c:Nat} (h:PQRes xs ys b m q r) (a:b<=c):PQRes xs ys c m q r:=
 ⟨h.id_,h.m0,h.r_lt,h.q_trim,h.r_trim,h.q_len,h.pow,fun n hn=>aG (h.bq n hn) a,fun n hn=>aG (h.br n hn) a,aG h.bm a⟩
inductive Euc (B:Nat):List Int->List Int->List Int->Prop
 |done (a:List Int):Euc B a [] a
 |one {a b:List Int} (hb:b.length=1):Euc B a b [1]
 |step {a b q r g:List Int} {m:Int} (hb:1<b.length) (h:PQRes a b B m q r) (t:Euc B b (aQ r) g):Euc B a b g
def mX (B:Nat) (xs ys g:List Int):Prop:=if xs.length<ys.length then Euc B (aQ ys) (aQ xs) g else Euc B (aQ xs) (aQ ys) g
theorem WholeAt.single {w:World} {s:Bool} {A:Option Addr} {k c:Nat} {n:Int} (h:IntAt w (.agg #[.bool s,.slice A k c]) n):WholeAt (w.alloc (.cells #[.bool s,.slice A k c] 59)) (.slice (some ⟨w.heap.size,0,none⟩) 1 1) [n]:=by
 have B:=Bx.new w [.bool s,.slice A k c] 59;have:OwnW (w.alloc (.cells #[.bool s,.slice A k c] 59)) w.heap.size [n]:=by
  refine⟨[[.bool s,.slice A k c]],⟨B,fun r b=> ?_⟩,aE,fun i m a=> ?_⟩
  ·rw[List.mem_singleton.1 b];rfl
  ·cases i with
   |zero=>injection a with a;subst a;exact⟨s,A,k,c,rfl,h.keep (Keep.alloc _ _)⟩
   |succ i=>simp at a
 exact this.whole 1 aE
theorem FO {d:Nat} (h:1<=d):d+2<=3^d:=by
 induction d with
 |zero=>omega
 |succ d b=>
  rw[cU];by_cases a:d=0
  ·subst a;decide
  ·have:=b (by omega);omega
theorem FP {K b a c B:Nat} (h:(K+1)*(b-a+2)*3^a<=B) (k:c<a) (j:a<=b):(K+(b+1-a)*(K+1)+1)*(a-c+2)*3^c<=B:=by
 have e:K+(b+1-a)*(K+1)+1=(K+1)*(b-a+2):=by
  rw[show b+1-a=b-a+1 by omega,Nat.add_mul (b-a) 1 (K+1),Nat.mul_add (K+1) (b-a) 2,dD (b-a) (K+1)];omega
 have f:a=(a-c)+c:=by omega
 have g:=FO (d:=a-c) (by omega);have i:(K+1)*(b-a+2)*3^a=(K+1)*(b-a+2)*3^(a-c)*3^c:=by
  conv=>lhs;rw[f,Nat.pow_add]
  rw[show(a-c+c)=a by omega,Nat.mul_assoc];simp only[Nat.mul_assoc]
 rw[i] at h;rw[e];exact aG (cZ _ (dL _ g)) h
theorem uF {K b a B:Nat} (h:(K+1)*(b-a+2)*3^a<=B) (d:a<=b):K+(b+1-a)*(K+1)+1<=B:=by
 have c:K+(b+1-a)*(K+1)+1=(K+1)*(b-a+2):=by
  rw[show b+1-a=b-a+1 by omega,Nat.add_mul (b-a) 1 (K+1),Nat.mul_add (K+1) (b-a) 2,dD (b-a) (K+1)];omega
 rw[c];exact aG (Nat.le_mul_of_pos_right _ (Nat.pow_pos (by decide))) h
theorem T7 (xs ys:List Int) (vx vy:Value) (w:World) (C:Glob w) (hx:WholeAt w vx xs) (hy:WholeAt w vy ys) (tx:aO xs) (ty:aO ys) (K B:Nat) (aq:∀n∈xs,nl n.natAbs<=K) (ar:∀n∈ys,nl n.natAbs<=K) (ap:1<=K)
  (hB:xs.length<ys.length->(K+1)*(ys.length-xs.length+2)*3^xs.length<=B) (ab:¬xs.length<ys.length->(K+1)*(xs.length-ys.length+2)*3^ys.length<=B) (a2:5*B+8<=aI) (a0:xs.length<=1073741824) (a1:ys.length<=1073741824):
  Calls Tryz.prog 88 #[vx,vy] w fun e w'=>∃v' g,e= .returned v'∧WholeAt w' v' g∧mX B xs ys g∧Below w.heap.size w w':=by
 obtain⟨A,c,rfl,hc⟩:=hx.form;obtain⟨Q,R,rfl,a4⟩:=hy.form;have a3:K<=B:=by
  by_cases h:xs.length<ys.length
  ·have:=uF (hB h) (by omega);omega
  ·have:=uF (ab h) (by omega);omega
 have lX:=cS xs;have lY:=cS ys;have pX:=mV xs _ w C hx tx K aq (by omega) (by omega);have pY:=fun W d=>mV ys _ W (C.below d) (hy.below d) ty K ar (by omega) (by omega);have kX:=fG aq;have kY:=fG ar;have tX:=fK tx;have tY:=fK ty;unfold mX;generalize aQ xs=X at *;generalize aQ ys=Y at *;rw[<-lX] at a0;rw[<-lY] at a1;rw[<-lX,<-lY] at hB ab;by_cases ag:xs.length<ys.length
 ·simp only[if_pos ag];have am:X.length<Y.length:=by omega
  have az:(X.length:Int)<(Y.length:Int):=by omega
  clear lX lY ag;go_enter Tryz.func88,Tryz.ntmps88;go_wp2_with fail;refine pX.mono ?_;rintro e1 w1 ⟨v1,rfl,i,d⟩;obtain⟨A1,c1,rfl,av⟩:=i.form;go_wp2_with fail;refine(pY _ d).mono ?_;rintro e2 w2 ⟨v2,rfl,H,J⟩;obtain⟨A2,c2,rfl,aw⟩:=H.form;replace i:=i.below J;replace d:=aC d J;clear pX pY J hx hy;go_wp2_with fail
  go_loopg [5,6] X.length (fun k va vb wr=>∃a b A c Q R f,Hid (b.length=k)∧va= .slice A a.length c∧vb= .slice Q b.length R∧WholeAt wr (.slice A a.length c) a∧WholeAt wr (.slice Q b.length R) b∧Hid (aO a)∧Hid (aO b)∧Hid (∀g,Euc B a b g->Euc B Y X g)∧
   (∀n∈a,nl n.natAbs<=f)∧(∀n∈b,nl n.natAbs<=f)∧1<=f∧b.length<=a.length∧a.length<=1073741824∧Hid ((f+1)*(a.length-b.length+2)*3^b.length<=B)∧Below w.heap.size w wr)
  case atStart=>exact⟨Y,X,A2,c2,A1,c1,K,rfl,rfl,rfl,H,i,tY,tX,fun g h=>h,kY,kX,ap,by omega,by omega,hB am,d⟩
  case round=>
   clear i H d hB ab tX tY kX kY;obtain⟨a,b,Aa,ca,Ab,cb,f,HL,rfl,rfl,I,l,ah,U,E,ka,kb,ac,ad,al,T,d⟩:=hrel;generalize wr=wy at *;have au:=uF T.out ad;by_cases p:b.length=0
   ·have q0:¬(0:Int)<(b.length:Int):=by omega
    have s:b=[]:=bM p;have j:=E.out a (by rw[s];exact Euc.done a);have x:=aB j;clear s p j;go_wp2_with fail;go_ret
    first|exact⟨_,a,rfl,I,x.out,d⟩|exact⟨_,rfl,a,I,x.out,d⟩
   ·have q0:(0:Int)<(b.length:Int):=by omega
    by_cases i:b.length=1
    ·have q1:((b.length:Int)==1)=true:=by simp;omega
     have j:=E.out [1] (Euc.one i);have x:=aB j;clear p i j;go_wp2_with fail;refine(iM 1 _ (by decide) (by decide)).mono ?_;rintro e3 v ⟨v3,rfl,V,u⟩;obtain⟨O,D,M,G,rfl⟩:=V.form;go_wp2_with fail;go_ret;exact⟨_,[1],rfl,WholeAt.single V,x.out,(aC d u).alloc (aG d.size u.size) _⟩
    ·have q1:((b.length:Int)==1)=false:=by simp;omega
     have s:b≠[]:=fun e=>p (by rw[e];rfl);have aj:1<b.length:=by omega
     have N:=tM a b _ _ wy I l s ah.out U.out f _ ka kb ac aE (by omega) al (by omega);unfold qR at N;go_wp2_with fail;refine N.mono ?_;rintro e3 v ⟨vq,vr,vm,q,r,m,rfl,hq,z,hm,o,u⟩;obtain⟨Aq,cq,rfl, -⟩:=hq.form;obtain⟨Ar,cr,rfl,ay⟩:=z.form;obtain⟨O,D,M,G,rfl⟩:=hm.form;have ao:=o.r_lt;have an:=fun W C h=>mV r (.slice Ar r.length cr) W C h o.r_trim _ o.br (by omega) (by omega);have ht:=fK o.r_trim;have hk:=fG o.br;have ak:∀n∈b,nl n.natAbs<=f+(a.length+1-b.length)*(f+1):=fun n hn=>aG (kb n hn) (Nat.le_add_right _ _);have L:=cS r;have af:(f+(a.length+1-b.length)*(f+1)+1)*(b.length-(aQ r).length+2)*3^(aQ r).length<=B:=by rw[L];exact FP T.out ao ad
     have j:∀g,Euc B b (aQ r) g->Euc B Y X g:=fun g t=>E.out g (Euc.step aj (o.mono (by omega)) t);have F:=aB (And.intro af (And.intro j ht));have ai:1<=f+(a.length+1-b.length)*(f+1):=aG ac (Nat.le_add_right _ _);have S:=aB L;clear L o af j ht N p i s;generalize aQ r=P at *;generalize f+(a.length+1-b.length)*(f+1)=KK at *;replace l:=l.below u;replace d:=aC d u;go_wp2_with fail;have y:Below v.heap.size v (v.alloc (.cells #[.bool O,.slice D M G] 59)):=(aH _ _).alloc aE _;replace l:=l.below y;replace z:=z.below y;replace d:=aC d y;clear y;generalize v.alloc (.cells #[.bool O,.slice D M G] 59)=w4 at *;refine(an _ (C.below d) z).mono ?_;rintro e5 w5 ⟨v5,rfl,Z,ae⟩;obtain⟨A5,c5,rfl,ax⟩:=Z.form;replace l:=l.below ae;replace d:=aC d ae;go_wp2_with fail;go_roundg P.length
     case rel=>exact⟨b,P,Ab,cb,A5,c5,KK,rfl,rfl,rfl,l,Z,U,F.out.2.2,F.out.2.1,ak,hk,ai,by have:=S.out;omega,by omega,F.out.1,d⟩
     case measure=>have:=HL.out;have:=S.out;omega
 ·simp only[if_neg ag];have am:¬X.length<Y.length:=by omega
  have az:¬(X.length:Int)<(Y.length:Int):=by omega
  clear lX lY ag;go_enter Tryz.func88,Tryz.ntmps88;go_wp2_with fail;refine pX.mono ?_;rintro e1 w1 ⟨v1,rfl,i,d⟩;obtain⟨A1,c1,rfl,av⟩:=i.form;go_wp2_with fail;refine(pY _ d).mono ?_;rintro e2 w2 ⟨v2,rfl,H,J⟩;obtain⟨A2,c2,rfl,aw⟩:=H.form;replace i:=i.below J;replace d:=aC d J;clear pX pY J hx hy;go_wp2_with fail
  go_loopg [5,6] Y.length (fun k va vb wr=>∃a b A c Q R f,Hid (b.length=k)∧va= .slice A a.length c∧vb= .slice Q b.length R∧WholeAt wr (.slice A a.length c) a∧WholeAt wr (.slice Q b.length R) b∧Hid (aO a)∧Hid (aO b)∧Hid (∀g,Euc B a b g->Euc B X Y g)∧
   (∀n∈a,nl n.natAbs<=f)∧(∀n∈b,nl n.natAbs<=f)∧1<=f∧b.length<=a.length∧a.length<=1073741824∧Hid ((f+1)*(a.length-b.length+2)*3^b.length<=B)∧Below w.heap.size w wr)
  case atStart=>exact⟨X,Y,A1,c1,A2,c2,K,rfl,rfl,rfl,i,H,tX,tY,fun g h=>h,kX,kY,ap,by omega,by omega,ab am,d⟩
  case round=>
   clear i H d hB ab tX tY kX kY;obtain⟨a,b,Aa,ca,Ab,cb,f,HL,rfl,rfl,I,l,ah,U,E,ka,kb,ac,ad,al,T,d⟩:=hrel;generalize wr=wy at *;have au:=uF T.out ad;by_cases p:b.length=0
   ·have q0:¬(0:Int)<(b.length:Int):=by omega
    have s:b=[]:=bM p;have j:=E.out a (by rw[s];exact Euc.done a);have x:=aB j;clear s p j;go_wp2_with fail;go_ret
    first|exact⟨_,a,rfl,I,x.out,d⟩|exact⟨_,rfl,a,I,x.out,d⟩
   ·have q0:(0:Int)<(b.length:Int):=by omega
    by_cases i:b.length=1
    ·have q1:((b.length:Int)==1)=true:=by simp;omega
     have j:=E.out [1] (Euc.one i);have x:=aB j;clear p i j;go_wp2_with fail;refine(iM 1 _ (by decide) (by decide)).mono ?_;rintro e3 v ⟨v3,rfl,V,u⟩;obtain⟨O,D,M,G,rfl⟩:=V.form;go_wp2_with fail;go_ret;exact⟨_,[1],rfl,WholeAt.single V,x.out,(aC d u).alloc (aG d.size u.size) _⟩
    ·have q1:((b.length:Int)==1)=false:=by simp;omega
     have s:b≠[]:=fun e=>p (by rw[e];rfl);have aj:1<b.length:=by omega
     have N:=tM a b _ _ wy I l s ah.out U.out f _ ka kb ac aE (by omega) al (by omega);unfold qR at N;go_wp2_with fail;refine N.mono ?_;rintro e3 v ⟨vq,vr,vm,q,r,m,rfl,hq,z,hm,o,u⟩;obtain⟨Aq,cq,rfl, -⟩:=hq.form;obtain⟨Ar,cr,rfl,ay⟩:=z.form;obtain⟨O,D,M,G,rfl⟩:=hm.form;have ao:=o.r_lt;have an:=fun W C h=>mV r (.slice Ar r.length cr) W C h o.r_trim _ o.br (by omega) (by omega);have ht:=fK o.r_trim;have hk:=fG o.br;have ak:∀n∈b,nl n.natAbs<=f+(a.length+1-b.length)*(f+1):=fun n hn=>aG (kb n hn) (Nat.le_add_right _ _);have L:=cS r;have af:(f+(a.length+1-b.length)*(f+1)+1)*(b.length-(aQ r).length+2)*3^(aQ r).length<=B:=by rw[L];exact FP T.out ao ad
     have j:∀g,Euc B b (aQ r) g->Euc B X Y g:=fun g t=>E.out g (Euc.step aj (o.mono (by omega)) t);have F:=aB (And.intro af (And.intro j ht));have ai:1<=f+(a.length+1-b.length)*(f+1):=aG ac (Nat.le_add_right _ _);have S:=aB L;clear L o af j ht N p i s;generalize aQ r=P at *;generalize f+(a.length+1-b.length)*(f+1)=KK at *;replace l:=l.below u;replace d:=aC d u;go_wp2_with fail;have y:Below v.heap.size v (v.alloc (.cells #[.bool O,.slice D M G] 59)):=(aH _ _).alloc aE _;replace l:=l.below y;replace z:=z.below y;replace d:=aC d y;clear y;generalize v.alloc (.cells #[.bool O,.slice D M G] 59)=w4 at *;refine(an _ (C.below d) z).mono ?_;rintro e5 w5 ⟨v5,rfl,Z,ae⟩;obtain⟨A5,c5,rfl,ax⟩:=Z.form;replace l:=l.below ae;replace d:=aC d ae;go_wp2_with fail;go_roundg P.length
     case rel=>exact⟨b,P,Ab,cb,A5,c5,KK,rfl,rfl,rfl,l,Z,U,F.out.2.2,F.out.2.1,ak,hk,ai,by have:=S.out;omega,by omega,F.out.1,d⟩
     case measure=>have:=HL.out;have:=S.out;omega
end Go.Proofs.YthfnenohhindpaaGreatDoor
namespace Go.Proofs.YthfnenohhindpaaGreatDoor
open Sos
def Prp (A:List Rat) (a:List Int):Prop:=A.length=a.length∧aO a∧∃c:Rat,c≠0∧∀i,cf A i=c*cf a i
theorem eV {n:Int} (h:n≠0):(n:Rat)≠0:=fun e=>h (Rat.intCast_inj.1 e)
theorem oB (c:Rat) (l:List Int) (i:Nat):cf (l.map (fun n:Int=>c*(n:Rat))) i=c*cf l i:=rT (fun n:Int=>c*(n:Rat)) (by show c*((0:Int):Rat)=0;rw[Rat.intCast_zero,Rat.mul_zero]) l i
theorem iB {c:Rat} {l:List Int} (a:c≠0) (h:aO l):Prp (l.map (fun n:Int=>c*(n:Rat))) l:=⟨bK _,h,c,a,oB c l⟩
theorem Prp.ne {A:List Rat} {a:List Int} (h:Prp A a) (b:a≠[]):cf A (A.length-1)≠0:=by
 obtain⟨g,i,c,f,d⟩:=h;rw[d,g];have:=eV ((fV b).1 i);intro e;rcases Rat.mul_eq_zero.1 e with e|e
 ·exact f e
 ·exact this e
theorem Prp.trim {A:List Rat} {a:List Int} (h:Prp A a):aO A:=by
 by_cases b:a=[]
 ·have:A=[]:=bM (by rw[h.1,b];rfl);rw[this];intro x c;simp at c
 ·exact(fV (fun e=>b (bM (by rw[<-h.1,e];rfl)))).2 (h.ne b)
theorem Prp.none {A:List Rat} (h:Prp A []):A=[]:=bM h.1
theorem yO {A g Q R:List Rat} {a b q r:List Int} {v:Nat} {m:Int} (j:Prp A a) (f:Prp g b) (s:b≠[]) (h:PQRes a b v m q r) (B:DivQ A g Q R):Prp R r:=by
 obtain⟨F, -,c,C,j⟩:=j;have y:=f.ne s;obtain⟨p, -,d,t,f⟩:=f;have u:=eV h.m0;have l:c/m≠0:=by
  rw[Rat.div_def];intro e;rcases Rat.mul_eq_zero.1 e with e|e
  ·exact C e
  ·exact u (by have:=Rat.inv_inv (m:Rat);rw[e,Rat.inv_zero] at this;exact this.symm)
 have D:DivQ A g (q.map (fun n:Int=>(c/m/d)*(n:Rat))) (r.map (fun n:Int=>(c/m)*(n:Rat))):=by
  have E:aO (q.map (fun n:Int=>(c/m/d)*(n:Rat))):=by
   refine(iB ?_ h.q_trim).trim;rw[Rat.div_def];intro e;rcases Rat.mul_eq_zero.1 e with e|e
   ·exact l e
   ·exact t (by have:=Rat.inv_inv d;rw[e,Rat.inv_zero] at this;exact this.symm)
  refine⟨fun i=> ?_,E,(iB l h.r_trim).trim,by rw[bK,p];exact h.r_lt⟩;rw[fR (oB _ q) f i,iZ,pS,oB,j];have o:((m*cf a i:Int):Rat)=((conv (cf q) (cf b) i+cf r i:Int):Rat):=by rw[h.id_ i]
  rw[Rat.intCast_mul,Rat.intCast_add,mM] at o;generalize conv (fun k=>((cf q k:Int):Rat)) (fun k=>((cf b k:Int):Rat)) i=z at *
  have w:c/m/d*(d*z)=c/m*z:=by rw[<-Rat.mul_assoc,Rat.div_mul_cancel t]
  rw[w];have x:c/m*z+c/m*((cf r i:Int):Rat)=c/m*(m*cf a i):=by rw[o];grind
  rw[x,<-Rat.mul_assoc,Rat.div_mul_cancel u]
 obtain⟨-,rfl⟩:=B.unique D y (by rw[p];exact List.length_pos_iff.2 s);exact iB l h.r_trim
theorem lM {R:List Rat} {r:List Int} (h:Prp R r):Prp R (aQ r):=by
 obtain⟨g,a,c,f,d⟩:=h;by_cases b:r=[]
 ·subst b;exact⟨g,fK a,c,f,fun i=>by rw[d,fM];have:aQ []=[]:=bM (cS []);rw[this,fM]⟩
 ·refine⟨by rw[cS];exact g,fK a,c*((aR r:Int):Rat),fun e=> ?_,fun i=> ?_⟩
  ·rcases Rat.mul_eq_zero.1 e with e|e
   ·exact f e
   ·exact eV (kS a b) e
  ·rw[d,<-iI r i,Rat.intCast_mul];grind
def cO (g:List Int):List Rat:=gH g (cf g (g.length-1))
def mG (p:List Rat):List Rat:=aX aW (lO [] (1/cf p (p.length-1)) p)
theorem oC {p:List Rat} {e:List Int} (h:Prp p e):mG p=cO e:=by
 by_cases a:e=[]
 ·subst a;rw[h.none];rfl
 ·have hn:=h.ne a;obtain⟨d,g,c,k,b⟩:=h;have f:=(fV a).1 g;refine mL (iX _) (QT f g) (fun i=> ?_);unfold mG cO;rw[iY,uE,fM,tV,b,b,d];have j:=eV f;rw[b,d] at hn;grind
theorem qY {e:List Int} (a:aO e):Prp (cO e) e:=by
 by_cases b:e=[]
 ·subst b;exact⟨rfl,a,1,by decide,fun i=>by rw[fM];show cf [] i=_;rw[fM,Rat.intCast_zero,Rat.mul_zero]⟩
 ·have d:=eV ((fV b).1 a);refine⟨bK _,a,1/((cf e (e.length-1):Int):Rat),fun h=> ?_,fun i=>by unfold cO;rw[tV];grind⟩;have:(1:Rat)=0:=by
   have c:1/((cf e (e.length-1):Int):Rat)*((cf e (e.length-1):Int):Rat)=1:=Rat.div_mul_cancel d;rw[<-c,h,Rat.zero_mul]
  exact absurd this (by decide)
theorem yP {e:List Int} {K:Nat} (h:∀n∈e,nl n.natAbs<=K) (b:1<=K):∀q∈cO e,RL K q:=fun q a=>by
 unfold cO gH at a;obtain⟨n,hn,rfl⟩:=List.mem_map.1 a;exact xW n _ K (h n hn) (gF h _) b
theorem SW {e:List Int} (h:e.length=1) (c:aO e):cO e=cO [1]:=by
 obtain⟨x,rfl⟩:∃x,e=[x]:=List.length_eq_one_iff.1 h;have d:=c x rfl;have:=eV d;show[(x:Rat)/(x:Rat)]=[((1:Int):Rat)/((1:Int):Rat)]
 have a:(x:Rat)/x=1:=by grind
 have b:((1:Int):Rat)/((1:Int):Rat)=1:=by rw[Rat.intCast_one];grind
 rw[a,b]
def Trc (B:Nat) (a b g:List Int):Prop:=Euc B a b g∨(b=[]∧a.length=1∧g=[1])∨a.length<b.length∧Euc B b a g∧∀n∈a,nl n.natAbs<=B
theorem Trc.done {B:Nat} {a g:List Int} (h:Trc B a [] g) (c:aO a):cO a=cO g:=by
 rcases h with h|⟨-,h,rfl⟩|⟨h, -⟩
 ·cases h with
  |done=>rfl
  |one b=>cases b
  |step b=>simp at b
 ·exact SW h c
 ·simp at h
theorem SX {B:Nat} {A j Q R:List Rat} {a b g:List Int} (d:Prp A a) (e:Prp j b) (f:b≠[]) (h:Trc B a b g) (m:DivQ A j Q R):∃c,Prp R c∧Trc B b c g∧(∀n∈c,nl n.natAbs<=B)∧c.length<b.length:=by
 rcases h with h|⟨h, -⟩|⟨o,p,hn⟩
 ·cases h with
  |done=>exact absurd rfl f
  |one k=>
   have r:=m.r_lt;rw[e.1] at r;have:R=[]:=bM (by omega);subst this;exact⟨[],⟨rfl,(fun x s=>by simp at s),1,by decide,fun i=>by rw[fM,fM,Rat.intCast_zero,Rat.mul_zero]⟩,.inr (.inl ⟨rfl,k,rfl⟩),(fun n hn=>by cases hn),by rw[k];exact Nat.zero_lt_one⟩
  |step k l t=>exact⟨_,lM (yO d e f l m),.inl t,fG l.br,by rw[cS];exact l.r_lt⟩
 ·exact absurd h f
 ·have q:A.length<j.length:=by rw[d.1,e.1];exact o
  obtain⟨-,rfl⟩:=m.unique (DivQ.short q) (e.ne f) (by omega);rw[nB d.trim];exact⟨a,d,.inl p,hn,o⟩
theorem qZ {A:List Rat} {D:Int} {K:Nat} (h:ComDen A D K) (t:aO A):Prp A (bE A D):=by
 have b:=eV (show D≠0 by have:=h.pos;omega);refine⟨(kQ A D).symm,kR h.pos h.dvd t,1/(D:Rat),fun e=> ?_,fun i=> ?_⟩
 ·have a:1/(D:Rat)*D=1:=Rat.div_mul_cancel b;rw[e,Rat.zero_mul] at a;exact absurd a (by decide)
 ·rw[xV A D h.dvd];grind
end Go.Proofs.YthfnenohhindpaaGreatDoor
namespace Go.Proofs.YthfnenohhindpaaGreatDoor
open Go.RowKit Sos
theorem TF (a b:List (List UInt8)) (I J:Value) (w:World) (u:StrsAt w I a) (v:StrsAt w J b) (X:a.length<=1099511627776) (Y:b.length<=1099511627776):
  Calls Tryz.prog 31 #[I,J] w fun e w'=>e= .returned (.bool (decide (a=b)))∧Below w.heap.size w w':=by
 obtain⟨A,c,rfl,S⟩:=u.form;obtain⟨M,P,rfl,T⟩:=v.form;go_enter Tryz.func31,Tryz.ntmps31;by_cases f:a.length=b.length
 ·have H:((a.length:Int)==(b.length:Int))=true:=by rw[f];exact beq_self_eq_true _
  have q:=aB f;go_wp2_with fail;clear H f;go_loopg [5] a.length (fun k i wr=>∃j,Hid (j+k=a.length)∧i= .int .i64 j∧Hid (a.take j=b.take j)∧Below w.heap.size w wr)
  case atStart=>exact⟨0,by unfold Hid;omega,rfl,rfl,aH _ _⟩
  case round=>
   obtain⟨j,l,rfl,r,d⟩:=hrel;generalize wr=wy at *;have U:(0:Int)<=(j:Int):=by omega
   cases gk with
   |zero=>
    have D:j=a.length:=l.out;have C:a=b:=by
     have:=r.out;rwa [D,List.take_length,q.out,List.take_length] at this
    have B:decide (a=b)=true:=decide_eq_true C;have K:=aB B;subst D;clear B C;go_wp2_with fail;go_ret;rw[K.out];exact⟨rfl,d⟩
   |succ k=>
    have o:j<a.length:=by have:=l.out;omega
    have E:j<b.length:=by rw[<-q.out];exact o
    have V:(j:Int)<(a.length:Int):=by omega
    have W:(j:Int)<(b.length:Int):=by omega
    have s:=aL o;have t:=aL E;have G:a[j]=b[j]->a.take (j+1)=b.take (j+1):=fun e=>by rw[List.take_succ_eq_append_getElem o,List.take_succ_eq_append_getElem E,r.out,e]
    have F:a[j]≠b[j]->decide (a=b)=false:=fun h=>decide_eq_false (fun e=>h (by simp[e]));have n:=aB (And.intro G F);obtain⟨N,oa,rfl,Z,Q⟩:=(u.below d).at_ s;obtain⟨O,ob,rfl,lb,R⟩:=(v.below d).at_ t;clear G F s t;generalize a[j]=x at *;generalize b[j]=y at *;have z:=d.drew;by_cases g:x=y
    ·have m:=aB (n.out.1 g);subst g;go_wp2_with fail;go_region
     all_goals (
      go_wp2_with fail;go_roundg k
      case rel=>exact⟨j+1,by have:=l.out;unfold Hid;omega,by go_num,m,z⟩
      case measure=>omega)
    ·have m:=aB (n.out.2 g);have p:(x==y)=false:=beq_eq_false_iff_ne.2 g;clear n;go_wp2_with fail;go_region
     all_goals (
      go_wp2_with fail;go_ret;rw[m.out];exact⟨rfl,z⟩)
 ·have H:((a.length:Int)==(b.length:Int))=false:=by rw[beq_eq_false_iff_ne];omega
  have p:decide (a=b)=false:=decide_eq_false (fun e=>f (by rw[e]));have L:=aB p;clear p;go_wp2_with fail;go_ret;rw[L.out];exact⟨rfl,aH _ _⟩
def r7 (u:Value):Prop:=∃A n c,u= .slice A n c
def PRow (w:World) (B:Nat) (e:TypeId) (v:Value) (b:List Value):Prop:=
 (v= .slice none 0 0∧b=[])∨∃g c d,v= .slice (some ⟨g,0,none⟩) b.length c∧B<=g∧w.heap[g]? =some (.cells d e (0,0))∧b.length<=c∧c<=maxLen∧d.size=c∧d.toList.take b.length=b∧∀u∈d.toList,r7 u
theorem PRow.nil (w:World) (B:Nat) (e:TypeId):PRow w B e (.slice none 0 0) []:= .inl ⟨rfl,rfl⟩
theorem PRow.below {w w':World} {B:Nat} {e:TypeId} {v:Value} {c:List Value} (h:PRow w B e v c) (j:Below w.heap.size w w'):PRow w' B e v c:=by
 rcases h with h|⟨g,d,f,hv,i,b,h⟩
 ·exact .inl h
 ·exact .inr ⟨g,d,f,hv,i,(j.block g (Array.getElem?_eq_some_iff.1 b).1).trans b,h⟩
theorem PRow.ge {w:World} {B:Nat} {e:TypeId} {v:Value} {c:List Value} (h:PRow w B e v c):∀g,v.ownBlock=some g->B<=g:=fun g b=>by
 rcases h with ⟨rfl,_⟩|⟨g',d,cur,rfl,f,_⟩
 ·simp[Value.ownBlock] at b
 ·simp[Value.ownBlock] at b;omega
theorem PRow.form {w:World} {B:Nat} {e:TypeId} {v:Value} {b:List Value} (h:PRow w B e v b):∃A c,v= .slice A b.length c∧b.length<=c:=by
 rcases h with ⟨rfl,rfl⟩|⟨i,f,g,rfl,j,_,d,_⟩
 ·exact⟨none,0,rfl,aE⟩
 ·exact⟨_,_,rfl,d⟩
theorem PRow.at_ {w:World} {B:Nat} {e:TypeId} {A:Option Addr} {l c:Nat} {g:List Value} (h:PRow w B e (.slice A l c) g) {i:Nat} {u:Value} (hi:g[i]? =some u):∃b,A=some ⟨b,0,none⟩∧b<w.heap.size∧w.cell? ⟨b,i,none⟩=some u:=by
 rcases h with ⟨_,rfl⟩|⟨d,m,j,hv,n,f,p,q,r,k,hn⟩
 ·simp at hi
 ·simp only[Value.slice.injEq] at hv;refine⟨d,hv.1,(Array.getElem?_eq_some_iff.1 f).1,?_⟩;rw[cell_of_row w d i j e (0,0) f,<-Array.getElem?_toList];rw[<-k,List.getElem?_take] at hi;split at hi
  ·exact hi
  ·cases hi
theorem TD {w:World} {g:Nat} {cur cs:Array Value} {e:TypeId} (t:w.heap[g]? =some (.cells cur e (0,0))) (hn:∀u∈cur.toList,r7 u) {u:Value} {n:Nat} (h:NatAt w u n):NatAt (w.setRow g cs) u n:=by
 obtain⟨A,c,hv,r,d,y⟩:=h;have k:(w.setRow g cs).heap.size=w.heap.size:=by simp[World.setRow]
 refine⟨A,c,hv,r,?_,y.mono (by rw[k];exact aE)⟩;rcases d with d|⟨b,m,rfl,x,j⟩
 ·exact .inl d
 ·by_cases l:dg n=[]
  ·exact .inl l
  ·have q:b≠g:=fun p=>by
    subst p;have f:=j 0 (List.length_pos_iff.2 l);rw[cell_of_row w b (m+0) cur e (0,0) t,<-Array.getElem?_toList] at f;obtain⟨z,C,B,s⟩:=hn _ (cH f);cases s
   refine .inr ⟨b,m,rfl,by rw[k];exact x,fun i v=> ?_⟩;exact(World.cell?_of_block (setRow_other w g b cs q)).trans (j i v)
section
variable {P:Program} {ops:Array Oper} {rest:List Oper} {o:Oper} {a:Act} {Q:Exit->Act->World->Prop} {w:World}
theorem r8 (ae:o.guard=none) {s x:Operand} {t:TypeId} (ho:o.op= .call { callee:= .builtin .append,args:= #[s,x],argTypes:= #[t,t] })
  (e:TypeId) (R:Nat) (L:P.underlying t=some (.slice e)) (hi:(P.info? e).map (fun i=>(i.zero,i.size,i.bytes))=some (some (.slice none 0 0),1,R))
  (B:Nat) (v:Value) (d:List Value) (hs:a.eval s=v) (ah:PRow w B e v d) (b:Nat) (u:Value) (O:a.eval x= .slice (some ⟨b,0,none⟩) 1 1) (hc:w.cell? ⟨b,0,none⟩=some u) (N:r7 u)
  (V:(d.length+1)*R<=140737488355328) (T:d.length+1<=maxLen) (hB:B<=w.heap.size)
  (h:∀p w',PRow w' B e p (d++[u])->Keep w w'->w.grownBy w' v.ownBlock->wpList P ops Q rest (a.put o.dst p) w'):
  wpList P ops Q (o :: rest) a w:=by
 obtain⟨i,H,hz,r,U⟩:=info_parts hi;have an:d.length+1<=9223372036854775807:=by simp only[maxLen] at T;omega
 have ag:u.oneCell'=true:=by obtain⟨A,n,c,rfl⟩:=N;rfl
 have J:∀j y,[u][j]? =some y->w.cell? ((⟨b,0,none⟩:Addr).add j)=some y:=fun j y m=>by
  match j,m with
  |0,m=>simp at m;subst m;simpa [Addr.add] using hc
 have S:∀(l F:Nat),l=grownCap w (d.length+1) F e->d.length+1<=l->l<=maxLen->∀ac,(∀y∈d,r7 y)->
   PRow (w.drew.alloc (.cells (d.toArray++[u].toArray++Builtin.zeroCells (Value.slice none 0 0).cells (l-(d.length+1))) e)) B e (.slice (some ⟨w.heap.size,0,none⟩) (d.length+1) l) (d++[u])∧
   Keep w (w.drew.alloc (.cells (d.toArray++[u].toArray++Builtin.zeroCells (Value.slice none 0 0).cells (l-(d.length+1))) e))∧
   w.grownBy (w.drew.alloc (.cells (d.toArray++[u].toArray++Builtin.zeroCells (Value.slice none 0 0).cells (l-(d.length+1))) e)) ac:=by
  intro l F _ C G ac hv;have al:(Builtin.zeroCells (Value.slice none 0 0).cells (l-(d.length+1))).size=l-(d.length+1):=by rw[size_zeroCells];simp[Value.cells]
  refine⟨.inr ⟨w.heap.size,l,_,by rw[aY];rfl,hB,heap_alloc_new w.drew _,by rw[aY];exact C,G,?_,?_,?_⟩,Keep.below ((aH w.heap.size w).drew.alloc aE _),⟨rfl,rfl,rfl,by simp,fun k I _=>heap_alloc_old w.drew _ I⟩⟩
  ·rw[Array.size_append,Array.size_append,al];simp;omega
  ·rw[Array.toList_append,Array.toList_append];exact List.take_left
  ·intro y f;rw[Array.toList_append,Array.toList_append] at f;rcases List.mem_append.1 f with f|f
   ·rcases List.mem_append.1 f with f|f
    ·exact hv y f
    ·have ak:y=u:=by simpa using f
     rw[ak];exact N
   ·have ab:y∈Builtin.zeroCells #[Value.slice none 0 0] (l-(d.length+1)):=Array.mem_toList_iff.1 f;unfold Builtin.zeroCells at ab;obtain⟨j,_,rfl⟩:=Array.mem_map.1 ab;simp only[List.size_toArray,List.length_cons,List.length_nil,aS,Nat.mod_one];exact⟨none,0,0,rfl⟩
 have am:∃p w',(Builtin.append_ #[t,t] o.type #[v,.slice (some ⟨b,0,none⟩) 1 1]).run P w= .ok p w'∧PRow w' B e p (d++[u])∧Keep w w'∧w.grownBy w' v.ownBlock:=by
  have X:=grownCap_ge w (d.length+1);have W:=fun F=>grownCap_le_maxLen w (d.length+1) F e T;rcases ah with ⟨rfl,rfl⟩|⟨g,l,z,rfl,ad,D,hl,hm,ao,M,hn⟩
  ·have q:=run_append_nil (P:=P) w t o.type e i (.slice none 0 0) L H hz ⟨b,0,none⟩ 1 1 [u] (by rw[r];rfl) J (by omega) (by omega) (by rw[U];simp at V;omega);have E:=S _ 0 rfl (X 0 e) (W 0) (Value.ownBlock (.slice none 0 0)) (fun y f=>by cases f);simp only[List.length_nil,aS,List.nil_append,Array.empty_append] at E⊢;exact⟨_,_,q,E⟩
  ·have Z:∀y∈d,r7 y:=fun y f=>hn y (by rw[<-M] at f;exact List.mem_of_mem_take f);by_cases Y:d.length+1<=l
   ·have q:=run_append_room (P:=P) w t o.type e i L H g d.length l z D ⟨b,0,none⟩ 1 1 [u] (by rw[r];rfl) J (fun y f=>by rw[List.mem_singleton.1 f];exact ag) Y (by rw[r];simp;omega);rw[r,Nat.mul_one,M] at q;refine⟨_,_,q,.inr ⟨g,l,_,by rw[aY];rfl,ad,setRow_heap w g z _ e _ D,by rw[aY];exact Y,hm,?_,?_,?_⟩,fun x n O=>TD D hn O,⟨rfl,rfl,rfl,by simp[World.setRow],fun k _ I=>setRow_other w g k _ (fun e=>I (by simp[Value.ownBlock,e]))⟩⟩
    ·simp[List.length_drop];omega
    ·exact List.take_left
    ·intro y f;have aj:y∈d++[u]++z.toList.drop (d.length+[u].length):=f;rcases List.mem_append.1 aj with f|f
     ·rcases List.mem_append.1 f with f|f
      ·exact Z y f
      ·rw[List.mem_singleton.1 f];exact N
     ·exact hn y (List.mem_of_mem_drop f)
   ·have af:∀j y,d[j]? =some y->w.cell? ((⟨g,0,none⟩:Addr).add j)=some y:=fun j y m=>by
     have C:w.cell? ⟨g,j,none⟩=some y:=by
      rw[cell_of_row w g j z e (0,0) D,<-Array.getElem?_toList];rw[<-M,List.getElem?_take] at m;split at m
      ·exact m
      ·cases m
     unfold Addr.add;split
     ·rename_i h0;subst h0;simpa using C
     ·simpa using C
    have q:=run_append_grow (P:=P) w t o.type e i (.slice none 0 0) L H hz ⟨g,0,none⟩ d.length l d (by rw[r,Nat.mul_one]) af ⟨b,0,none⟩ 1 1 [u] (by rw[r];rfl) J (by omega) (by omega) (growslice_fits (by omega) (by rw[U];exact V));have E:=S _ l rfl (X l e) (W l) (Value.ownBlock (.slice (some ⟨g,0,none⟩) d.length l)) Z;exact⟨_,_,q,E⟩
 obtain⟨p,w',ai,G,h3,h4⟩:=am;refine wpList_plain ae fun K hK=> ?_;unfold Oper.wp execOp;simp only[ho,resolve,invoke,builtin,Sem.run_bind,Sem.run_pure,Result.andThen_ok,List.map_toArray,List.map_cons,List.map_nil,hs,O,ai];exact hK _ _ (h p w' G h3 h4)
end
def RowsAt {α:Type} (E:World->Value->α->Prop) (w:World) (B:Nat) (e:TypeId) (v:Value) (ls:List α):Prop:=
 ∃b,PRow w B e v b∧b.length=ls.length∧∀(i:Nat) (u:Value) (l:α),b[i]? =some u->ls[i]? =some l->E w u l
theorem RowsAt.nil {α:Type} (E:World->Value->α->Prop) (w:World) (B:Nat) (e:TypeId):RowsAt E w B e (.slice none 0 0) []:=⟨[],PRow.nil _ _ _,rfl,fun i u l h=>by simp at h⟩
theorem RowsAt.form {α:Type} {E:World->Value->α->Prop} {w:World} {B:Nat} {e:TypeId} {v:Value} {ls:List α} (h:RowsAt E w B e v ls):∃A c,v= .slice A ls.length c∧ls.length<=c:=by
 obtain⟨f,b,d,_⟩:=h;rw[<-d];exact b.form
theorem RowsAt.at_ {α:Type} {E:World->Value->α->Prop} {w:World} {B:Nat} {e:TypeId} {A:Option Addr} {n c:Nat} {ls:List α} (h:RowsAt E w B e (.slice A n c) ls) {i:Nat} {l:α} (hi:ls[i]? =some l):∃b u,A=some ⟨b,0,none⟩∧b<w.heap.size∧w.cell? ⟨b,i,none⟩=some u∧E w u l:=by
 obtain⟨q,f,g,j⟩:=h;have d:i<q.length:=by rw[g];exact(List.getElem?_eq_some_iff.1 hi).1
 obtain⟨b,k,m,p⟩:=f.at_ (aL d);exact⟨b,_,k,m,p,j i _ l (aL d) hi⟩
abbrev WsAt:=RowsAt WholeAt
abbrev TsAt:=RowsAt StrsAt
theorem WsAt.below {w w':World} {B:Nat} {v:Value} {ls:List (List Int)} (h:WsAt w B 56 v ls) (b:Below w.heap.size w w'):WsAt w' B 56 v ls:=by
 obtain⟨j,c,d,e⟩:=h;exact⟨j,c.below b,d,fun i u l g f=>(e i u l g f).below b⟩
theorem TsAt.below {w w':World} {B:Nat} {v:Value} {ls:List (List (List UInt8))} (h:TsAt w B 22 v ls) (b:Below w.heap.size w w'):TsAt w' B 22 v ls:=by
 obtain⟨j,c,d,e⟩:=h;exact⟨j,c.below b,d,fun i u l g f=>(e i u l g f).below b⟩
theorem WholeAt.grown {w w':World} {B:Nat} {v u:Value} {t:List Value} {l:List Int} (h:WholeAt w u l) (s:PRow w B 56 v t) (r:Keep w w') (n:w.grownBy w' v.ownBlock):WholeAt w' u l:=by
 obtain⟨A,c,e,m,h⟩:=h;refine⟨A,c,e,m,?_⟩;rcases h with h|⟨b,j,k,f,q⟩
 ·exact .inl h
 ·refine .inr ⟨b,j,k,⟨(n.block b f.lt (fun i=> ?_)).trans f.1,f.2⟩,q.keep r⟩;rcases s with ⟨rfl,_⟩|⟨g,x,y,rfl,_,p,_⟩
  ·simp[Value.ownBlock] at i
  ·simp[Value.ownBlock] at i;subst i;have d:w.heap[b]? =some (.cells j.flatten.toArray 59 (0,0)):=f.1;rw[p] at d;injection d with d;injection d with _ d;exact absurd d (by decide)
theorem StrsAt.grown {w w':World} {B:Nat} {e:TypeId} {v u:Value} {E:List Value} {l:List (List UInt8)} (h:StrsAt w u l) (D:PRow w B e v E) (j:w.grownBy w' v.ownBlock):StrsAt w' u l:=by
 obtain⟨A,c,r,x,h⟩:=h;refine⟨A,c,r,x,?_⟩;rcases h with h|⟨b,p,s,m,k⟩
 ·exact .inl h
 ·by_cases C:l=[]
  ·exact .inl C
  ·refine .inr ⟨b,p,s,aU m j.size,fun i t n=>(World.cell?_of_block (j.block b m (fun d=> ?_))).trans (k i t n)⟩;rcases D with ⟨rfl,_⟩|⟨g,H,q,rfl,_,z,_,_,_,_,hn⟩
   ·simp[Value.ownBlock] at d
   ·simp[Value.ownBlock] at d;subst d;have f:=k i t n;rw[cell_of_row w b (p+i) q e (0,0) z,<-Array.getElem?_toList] at f;obtain⟨F,I,G,y⟩:=hn _ (cH f);cases y
theorem WsAt.push {w w':World} {B:Nat} {v k u:Value} {d:List Value} {ls:List (List Int)} {l:List Int} (f:PRow w B 56 v d) (g:d.length=ls.length) (n:∀(i:Nat) (u:Value) (l:List Int),d[i]? =some u->ls[i]? =some l->WholeAt w u l) (q:WholeAt w u l)
  (p:PRow w' B 56 k (d++[u])) (j:Keep w w') (h:w.grownBy w' v.ownBlock):WsAt w' B 56 k (ls++[l]):=by
 refine⟨_,p,by rw[aY,aY,g];rfl,fun i x y b c=> ?_⟩;rcases Nat.lt_or_ge i d.length with e|e
 ·rw[f8 e] at b;rw[f8 (by omega)] at c;exact(n i x y b c).grown f j h
 ·rw[dS e] at b;rw[dS (by omega),<-g] at c;have m:i-d.length=0:=by
   have:=(List.getElem?_eq_some_iff.1 b).1;simp at this;omega
  rw[m] at b c;simp at b c;subst b;subst c;exact q.grown f j h
theorem TsAt.push {w w':World} {B:Nat} {v j u:Value} {d:List Value} {ls:List (List (List UInt8))} {l:List (List UInt8)} (f:PRow w B 22 v d) (g:d.length=ls.length) (m:∀(i:Nat) (u:Value) (l:List (List UInt8)),d[i]? =some u->ls[i]? =some l->StrsAt w u l) (p:StrsAt w u l)
  (n:PRow w' B 22 j (d++[u])) (h:w.grownBy w' v.ownBlock):TsAt w' B 22 j (ls++[l]):=by
 refine⟨_,n,by rw[aY,aY,g];rfl,fun i x y b c=> ?_⟩;rcases Nat.lt_or_ge i d.length with e|e
 ·rw[f8 e] at b;rw[f8 (by omega)] at c;exact(m i x y b c).grown f h
 ·rw[dS e] at b;rw[dS (by omega),<-g] at c;have k:i-d.length=0:=by
   have:=(List.getElem?_eq_some_iff.1 b).1;simp at this;omega
  rw[k] at b c;simp at b c;subst b;subst c;exact p.grown f h
theorem rA {B:Nat} {a w w':World} {v:Value} {e:TypeId} {g:List Value} (h:Below B a w) (b:w.grownBy w' v.ownBlock) (f:PRow w B e v g) (d:B<=a.heap.size):Below B a w':=
 ⟨b.os.trans h.os,b.tape.trans h.tape,b.output.trans h.output,aG h.size b.size,fun k c=>(b.block k (aU c (aG d h.size)) (fun e=>by have:=f.ge k e.symm;omega)).trans (h.block k c)⟩
theorem TE:(Tryz.prog.info? 56).map (fun i=>(i.zero,i.size,i.bytes))=some (some (.slice none 0 0),1,24):=by kernel_rfl
theorem yU:(Tryz.prog.info? 22).map (fun i=>(i.zero,i.size,i.bytes))=some (some (.slice none 0 0),1,24):=by kernel_rfl
theorem FR {w:World} {g:Nat} {cur cs:Array Value} {e:TypeId} (s:w.heap[g]? =some (.cells cur e (0,0))) (hn:∀u∈cur.toList,NoInt u) {u:Value} {n:Nat} (h:NatAt w u n):NatAt (w.setRow g cs) u n:=by
 obtain⟨A,c,hv,r,d,x⟩:=h;have k:(w.setRow g cs).heap.size=w.heap.size:=by simp[World.setRow]
 refine⟨A,c,hv,r,?_,x.mono (by rw[k];exact aE)⟩;rcases d with d|⟨b,m,rfl,v,j⟩
 ·exact .inl d
 ·by_cases l:dg n=[]
  ·exact .inl l
  ·have q:b≠g:=fun p=>by
    subst p;have f:=j 0 (List.length_pos_iff.2 l);rw[cell_of_row w b (m+0) cur e (0,0) s,<-Array.getElem?_toList] at f;exact hn _ (cH f) _ _ rfl
   refine .inr ⟨b,m,rfl,by rw[k];exact v,fun i t=> ?_⟩;exact(World.cell?_of_block (setRow_other w g b cs q)).trans (j i t)
section
variable {P:Program} {ops:Array Oper} {rest:List Oper} {o:Oper} {a:Act} {Q:Exit->Act->World->Prop} {w:World}
theorem TB (dT sT F c:TypeId) (k g dLen dCap:Nat) (sp:Option Addr) (sLen sCap:Nat) (cur:Array Value) (t:TypeId) (cs:List Value)
  (q:P.underlying dT=some (.slice c)) (m:(P.info? c).map (·.size)=some k) (A:0<k)
  (d:w.heap[g]? =some (.cells cur t (0,0))) (hn:cs.length=sLen*k) (B:sLen<=dLen)
  (n:Src w sp cs) (y:cs.length<=cur.size) (u:∀v∈cs,v.oneCell'=true):
  (Builtin.copy_ #[dT,sT] F #[.slice (some ⟨g,0,none⟩) dLen dCap,.slice sp sLen sCap]).run P w= .ok (goInt sLen) (w.setRow g (cs++cur.toList.drop cs.length).toArray):=by
 have p:=run_storeCells_at P g 0 t cs 0 cur w d (by simpa using y) u;have C:Nat.min sLen dLen=sLen:=Nat.min_eq_left B;simp only[aS,List.take_zero,List.nil_append] at p;cases hq:P.info? c with
 |none=>simp[hq] at m
 |some i=>
  have f:i.size=k:=by simpa [hq] using m
  cases sp with
  |none=>
   have s:cs=[]:=by
    rcases n with h|⟨b,E,e,_⟩
    ·exact h
    ·cases e
   subst s;have D:sLen=0:=by
    rcases Nat.eq_zero_or_pos sLen with h|h
    ·exact h
    ·have:=Nat.mul_pos h A;simp at hn;omega
   subst D;simp[Builtin.copy_,run_underlying q,Builtin.lenOf,Builtin.firstCells,sizeOf,typeInfo,hq,f,storeCells,setRow_self w g cur t (0,0) d]
  |some r=>
   have l:=run_loadCells_list (P:=P) w r cs (fun j v hv=>by
    rcases n with h|⟨b,E,e,x⟩
    ·rw[h] at hv;simp at hv
    ·injection e with e;subst e;have:=x j v hv;unfold Addr.add;split
     ·rename_i z;subst z;simpa using this
     ·exact this)
   rw[hn] at l;simp[Builtin.copy_,run_underlying q,Builtin.lenOf,Builtin.firstCells,sizeOf,typeInfo,hq,f,C,l,p]
theorem TC (l:o.guard=none) {d s:Operand} {dT sT:TypeId} (p:o.op= .call { callee:= .builtin .copy,args:= #[d,s],argTypes:= #[dT,sT] }) (b:TypeId) (k g dLen dCap:Nat) (sp:Option Addr) (sLen sCap:Nat) (cur:Array Value) (t:TypeId) (cs:List Value)
  (x:P.underlying dT=some (.slice b)) (r:(P.info? b).map (·.size)=some k) (m:0<k) (f:a.eval d= .slice (some ⟨g,0,none⟩) dLen dCap) (y:a.eval s= .slice sp sLen sCap)
  (j:w.heap[g]? =some (.cells cur t (0,0))) (hn:cs.length=sLen*k) (n:sLen<=dLen) (u:Src w sp cs) (i:cs.length<=cur.size) (c:∀v∈cs,v.oneCell'=true)
  (h:wpList P ops Q rest (a.put o.dst (goInt sLen)) (w.setRow g (cs++cur.toList.drop cs.length).toArray)):wpList P ops Q (o :: rest) a w:=by
 refine wpList_plain l fun K e=> ?_;have q:=TB (P:=P) (w:=w) dT sT o.type b k g dLen dCap sp sLen sCap cur t cs x r m j hn n u i c;unfold Oper.wp execOp;simp only[p,resolve,invoke,builtin,Sem.run_bind,Sem.run_pure,Result.andThen_ok,List.map_toArray,List.map_cons,List.map_nil,f,y,q];exact e _ _ h
end
theorem FT {α:Type} (z:List α) (k l M:Nat) (d:z.length=k) (f:l<=M):(List.replicate M z).flatten.drop (l*k)=(List.replicate (M-l) z).flatten:=by
 have e:List.replicate M z=List.replicate l z++List.replicate (M-l) z:=by rw[List.replicate_append_replicate];congr 1;omega
 have b:(List.replicate l z).flatten.length=l*k:=by rw[kG (k:=k) (fun r c=>by rw[(List.mem_replicate.1 c).2];exact d),cN]
 rw[e,List.flatten_append,<-b,List.drop_left]
theorem OwnW.copied {w:World} {g M:Nat} {rows:List (List Value)} {ns:List Int} (f:Rw w g 2 (List.replicate M [.bool false,.slice none 0 0]) 59) (m:∀r∈rows,r.length=2) (d:rows.length=ns.length) (v:ns.length<=M) (hi:IRow w rows ns):
  let W:=w.setRow g (rows.flatten++(List.replicate M ([.bool false,.slice none 0 0]:List Value)).flatten.drop rows.flatten.length).toArray
  OwnW W g (ns++List.replicate (M-ns.length) 0)∧kO g w W:=by
 have k:w.heap[g]? =some (.cells (List.replicate M ([.bool false,.slice none 0 0]:List Value)).flatten.toArray 59 (0,0)):=f.1
 have p:Keep w (w.setRow g (rows.flatten++(List.replicate M ([.bool false,.slice none 0 0]:List Value)).flatten.drop rows.flatten.length).toArray):=fun x n F=>FR k (fun u D=>by
  have E:u∈(List.replicate M ([.bool false,.slice none 0 0]:List Value)).flatten:=D;obtain⟨r,C,j⟩:=List.mem_flatten.1 E;rw[(List.mem_replicate.1 C).2] at j;simp at j;rcases j with rfl|rfl
  ·exact NoInt.bool _
  ·exact NoInt.slice _ _ _) F
 have B:rows.flatten.length=ns.length*2:=by rw[kG m,d]
 have z:rows.flatten++(List.replicate M ([.bool false,.slice none 0 0]:List Value)).flatten.drop rows.flatten.length=(rows++List.replicate (M-ns.length) [Value.bool false,Value.slice none 0 0]).flatten:=by
  rw[B,FT _ 2 _ _ rfl v,List.flatten_append]
 refine⟨⟨rows++List.replicate (M-ns.length) [.bool false,.slice none 0 0],⟨?_,fun r f=> ?_⟩,by simp[d],fun i n hn=> ?_⟩,p,fun b y=>setRow_other w g b _ y,by simp[World.setRow],rfl,rfl,rfl⟩
 ·unfold Bx;rw[<-z];exact setRow_heap w g _ _ _ _ k
 ·rcases List.mem_append.1 f with h|h
  ·exact m r h
  ·rw[(List.mem_replicate.1 h).2];rfl
 ·rcases Nat.lt_or_ge i ns.length with h|h
  ·rw[f8 h] at hn;obtain⟨s,A,l,c,q,t⟩:=hi i n hn;exact⟨s,A,l,c,by rw[f8 (by omega)];exact q,t.keep p⟩
  ·rw[dS h] at hn;have e:=(List.getElem?_eq_some_iff.1 hn).1;rw[cN] at e;rw[List.getElem?_replicate,if_pos e] at hn;injection hn with hn;subst hn;exact⟨false,none,0,0,by rw[dS (by omega),d,List.getElem?_replicate,if_pos e],IntAt.zero _⟩
def r6 (xs ys:List Int) (y:Int):List Int:=(List.range (max xs.length ys.length)).map (fun i=>cf xs i+cf ys i*y)
