/- Laws. -/
import Derived.Test.YticcgnnefilhcaaGreatDoorT25
set_option linter.all false
set_option maxHeartbeats 8000000
set_option maxRecDepth 99999
namespace Go.Proofs.YticcgnnefilhcaaGreatDoor
open Go.RowKit Sos Tryz
variable{a:List (List UInt8)}{Q l p:List Rat}{B K m:Nat}{q:Rat}{D:Int}{u v:Value}{w w':World}{e:TypeId}{f i r:List Value}
def VT(a:List (List UInt8))(v:Value)(w:World)(hv:StrsAt w v a)(hl:a.length<=1073741824)(ac:∀l∈a,l.length<=1073741824):
  Calls prog 84 #[v] w fun e w'=>∃Q,e= .returned (.tuple #[Q,.bool (a.all rd)])∧(a.all rd=true->∃g,Q= .slice (some ⟨g,0,none⟩) a.length a.length∧w.1.size<=g∧OwnQ w' g (aU a))∧Below w.1.size w w':=by
 obtain⟨A,c,rfl,hc⟩:=hv.form;have P:(aU a).length=a.length:=cH _;have s:=aB P;clear P;go_enter func84,ntmps84;go_wp2_with (at_make;refine jT rfl rfl 58 _ 4 64 underlying50 sJ rfl (by decide) a.length rfl rfl rfl rfl (by omega) (by omega) ?_;intro w1 af M D);have y:=OwnQ.made M;clear M af;go_loopg [5] a.length (fun k i wr=>∃j,Hid (j+k=a.length)∧i= .int .i64 j∧OwnQ wr w.1.size ((aU a).take j++List.replicate k 0)∧Hid ((a.take j).all rd=true)∧Below w.1.size w wr)
 case atStart=>exact⟨0,by unfold Hid;omega,rfl,by simpa using y,by unfold Hid;simp,D⟩
 case round=>
  clear y D;obtain⟨j,f,rfl,R,o,d⟩:=hrel;generalize wr=wx at *;have aj:(0:Int)<=(j:Int):=by omega
  cases gk with
  |zero=>
   have I:j=a.length:=f.out;have C:a.all rd=true:=by
    have:=o.out;rw[I,F9] at this;exact this
   subst I;rw[F8,fH,cZ (by rw[s.out];exact aE)] at R;have U:=aB C;clear C o;go_wp2;go_ret2;rw[U.out];exact⟨_,rfl,fun _=>⟨w.1.size,rfl,aE,R⟩,d⟩
  |succ k=>
   obtain⟨t,m⟩:∃t,a[j]? =some t:=⟨_,aR (by have:=f.out;omega)⟩;obtain⟨b,am,rfl,ai,g0⟩:=(hv.be d).at_ m;have ae:=ac t (dG m);have ak:(j:Int)<(a.length:Int):=by have:=f.out;omega
   have O:(aU a)[j]? =some ((dyS t).getD 0):=by unfold aU;rw[iK,m];rfl
   have F:=rI (ys:=aU a) (z:=(0:Rat)) (j:=j) (k:=k+1) (by rw[s.out];exact f.out);have G:=rH (z:=(0:Rat)) (k:=k) O;have H:j<((aU a).take j++List.replicate (k+1) 0).length:=by rw[F,s.out];have:=f.out;omega
   have N:(a.take (j+1)).all rd=rd t:=by rw[kR,m,azB,aqJ,o.out];simp
   have J:rd t=false->a.all rd=false:=fun h=>by
    rw[List.all_eq_false];exact⟨t,dG m,by rw[h];simp⟩
   have V:=aB G;have q:=aB N;have p:=aB J;clear O F G N J m;go_wp2_with fail;refine(CE t _ ae).mono ?_;rintro e2 w2 ⟨v2,q2,rfl,n,x,E⟩;obtain⟨s2,S,k2,Z,s3,T,k3,c3,rfl⟩:=n.form;replace R:=R.be E;replace d:=aC d E;cases hrd:rd t with
   |false=>
    have W:=aB (p.out hrd);clear p q hrd x;go_wp2;go_ret2;rw[W.out];exact⟨_,rfl,(fun h=>by cases h),d.alloc d.size _⟩
   |true=>
    have X:Hid (q2=(dyS t).getD 0):=by
     obtain⟨r,L⟩:=Option.isSome_iff_exists.1 hrd;unfold Hid;rw[L];exact x r L
    rw[hrd] at q;clear p hrd x;obtain⟨W3,B,u,Y⟩:=bI w2 [.bool s2,.slice S k2 Z,.bool s3,.slice T k3 c3] 58;replace R:=R.be u;replace n:=n.be u;replace d:=aC d u;obtain⟨s',B',l',d',an,ag,al,ah,q0, -⟩:=R.at_ (aR H);have f0:=R.free;have cX:=Y.k4;rw[X.out] at n;generalize (dyS t).getD 0=q3 at *;go_wp2_with fail;(try rw[B]);clear B;go_wp2_with fail;obtain⟨K,ad⟩:=R.stored H n;rw[V.out] at K;have ab:=jD d ad.2 aE;go_roundg k
    case rel=>exact⟨j+1,by have:=f.out;unfold Hid;omega,by go_num,K,q,ab⟩
    case measure=>omega
def lT(w:World)(b:List Rat)(e:Ending)(w':World):Prop:=∃a,e= .returned a∧QsAt w' a b∧Below w.1.size w w'
def oP(a:List (List UInt8)):List Rat:=if vl a=true then aU a else []
def qP(w:World)(a:List (List UInt8))(e:Ending)(w':World):Prop:=∃b,e= .returned (.tuple #[b,.bool (vl a)])∧QsAt w' b (oP a)∧Below w.1.size w w'
def tW(h:vl a=true):oP a=aU a:=if_pos h
def xO(h:vl a=false):oP a=[]:=if_neg (by rw[h];simp)
def JG(q:Rat):(q.num.sign==0)=decide (q=0):=by
 rw[aqF,iQ,beq_iff_eq,Int.sign_eq_zero_iff_zero];exact⟨fun h=>Rat.num_eq_zero.1 h,fun h=>by rw[h];rfl⟩
def VQ(a:List (List UInt8))(v:Value)(w:World)(hv:StrsAt w v a)(C:a.length<=1073741824)(D:∀l∈a,l.length<=1073741824)(y:∀q∈aU a,RL 1099511627776 q):
  Calls prog 31 #[v] w (qP w a):=by
 obtain⟨A,c,rfl,N⟩:=hv.form;go_enter func31,ntmps31;go_wp2_with fail;refine(VT a _ _ hv C D).mono ?_;rintro K G ⟨V,rfl,o,e⟩;cases ha:a.all rd with
 |false=>
  have b:Hid (vl a=false):=by unfold Hid vl;rw[jA,ha];simp
  clear ha o;go_wp2;go_ret2;unfold qP;rw[b.out,xO b.out];exact⟨_,rfl,QsAt.nil _,e⟩
 |true=>
  obtain⟨g,rfl,O,R⟩:=o ha;have h:=VS a;have f:=R.nums a.length (by omega);rw[h] at f;clear o;by_cases p:a.length<=65
  ·have E:¬(65:Int)<(a.length:Int):=by omega
   by_cases i:a.length=0
   ·have b:Hid (vl a=true):=by
     have:a=[]:=bX i;unfold Hid;rw[this];rfl
    have F:decide (0<a.length)=false:=by rw[i];rfl
    clear ha i h R;go_wp2;go_ret2;unfold qP;rw[b.out,tW b.out];exact⟨_,rfl,f,e⟩
   ·obtain⟨m,j⟩:∃m,a.length=m+1:=⟨a.length-1,by omega⟩;have F:decide (0<a.length)=true:=by rw[j];simp
    have Q:(a.length:Int)-1=(m:Int):=by omega
    have S:(m:Int)<(a.length:Int):=by omega
    obtain⟨q,n⟩:∃q,(aU a)[m]? =some q:=⟨_,aR (by omega)⟩;obtain⟨s,B,k,d,T,H,P,J,M,z⟩:=R.at_ n;have t:(aU a).getLast?=some q:=by rw[aqN,h,j];exact n
    have u:=oC q _ G z (y q (dG n)).1;have x:=JG q;have b:Hid (vl a= !decide (q=0)):=by
     unfold Hid vl;rw[aqF,iQ,ha,t];simp[p]
    have I:=aB j;generalize q.num.sign=U at *;clear ha i h R n t j;go_wp2_with fail;refine u.mono ?_;rintro L W ⟨rfl,r⟩;clear u;replace e:=aC e r;replace f:=f.be r;cases hd:decide (q=0) with
    |true=>
     rw[hd] at x b;clear hd;go_wp2;go_ret2;unfold qP;rw[b.out,xO b.out];exact⟨_,rfl,QsAt.nil _,e⟩
    |false=>
     rw[hd] at x b;clear hd;go_wp2;go_ret2;unfold qP;rw[tW b.out,b.out];exact⟨_,rfl,f,e⟩
  ·have E:(65:Int)<(a.length:Int):=by omega
   have b:Hid (vl a=false):=VR p;clear ha p h R;go_wp2;go_ret2;unfold qP;rw[b.out,xO b.out];exact⟨_,rfl,QsAt.nil _,e⟩
def tZ(a:List Rat)(v:Value)(w:World)(hv:QsAt w v a)(E:∀q∈a,nl q.num.natAbs<=1099511627776)(T:a.length<=1073741824):
  Calls prog 90 #[v] w (lT w (aW aV a)):=by
 obtain⟨A,c,rfl,S⟩:=hv.form;go_enter func90,ntmps90;go_wp2_with fail;go_loopg [3] a.length (fun k i wr=>∃m,Hid (m=k)∧i= .int .i64 m∧m<=a.length∧Hid (aW aV (a.take m)=aW aV a)∧Below w.1.size w wr)
 case atStart=>exact⟨a.length,rfl,rfl,aE,by unfold Hid;rw[F9],aG _ _⟩
 case round=>
  obtain⟨m,t,rfl,H,g,e⟩:=hrel;generalize wr=M at *;have U:(0:Int)<=(m:Int):=by omega
  cases gk with
  |zero=>
   obtain rfl:m=0:=t.out;have j:Hid (a.take 0=aW aV a):=by have:=g.out;exact this
   have f:=e;have hcut:=(hv.be e).cut 0 (by omega);have r0:(0:Int)<=(0:Int):=by decide
   clear g;go_wp2_with (at_builtin;refine yT rfl rfl rfl rfl hcut (by simp) ?_;intro K L n _ o);go_ret;exact⟨_,rfl,by rw[<-j.out];exact n,aC f o⟩
  |succ k=>
   have I:m=k+1:=t.out;subst I;obtain⟨q,h⟩:∃q,a[k]? =some q:=⟨_,aR (by omega)⟩;obtain⟨b,s,B,l,d,s',N,Z,O,rfl,R,Q,F⟩:=(hv.be e).at_ h;have J:=oC q _ M F (E q (dG h));have C:=JG q;have y:=zV aV a h;have z:=zW aV a h;have r:=aB y;have u:=aB z;have hcut:=(hv.be e).cut (k+1) H;clear y z;have V:((k:Int)+1)<=(a.length:Int):=by omega
   have W:k+1<=c:=by omega
   have X:k<=c:=by omega
   have Y:(0:Int)<=(k:Int):=by omega
   generalize q.num.sign=sg at *;go_wp2_with fail;refine J.mono ?_;rintro P w1 ⟨rfl,x⟩;have f:=aC e x;replace hcut:=hcut.be x;cases hd:decide (q=0) with
   |true=>
    have p:aV q=true:=hd;rw[hd] at C;clear hd;go_wp2;go_roundg k
    case rel=>exact⟨k,rfl,by simp,by omega,by unfold Hid;rw[<-r.out p];exact g.out,f⟩
    case measure=>omega
   |false=>
    have p:aV q=false:=hd;rw[hd] at C;have D:a.take (k+1)=aW aV a:=by rw[<-g.out];exact(u.out p).symm
    have j:=aB D;have G:(a.take (k+1)).length<=1073741824:=by rw[bK];omega
    clear hd D u r g;go_wp2_with (at_builtin;refine yT rfl rfl rfl rfl hcut G ?_;intro K L n _ o);go_ret;exact⟨_,rfl,by rw[<-j.out];exact n,aC f o⟩
def fW(p:List Rat):List Rat:=(List.range (p.length-1)).map (fun i=>cf p (i+1)*((i+1:Nat):Rat))
def qO(p:List Rat):(fW p).length=p.length-1:=by unfold fW;rw[cH,V9]
def VP(a:1<=m)(h:p[m]? =some q):(fW p).take m=(fW p).take (m-1)++[q*(m:Rat)]:=by
 obtain⟨i,rfl⟩:∃i,m=i+1:=⟨m-1,by omega⟩;have b:=(List.getElem?_eq_some_iff.1 h).1;have e:(fW p)[i]? =some (q*((i+1:Nat):Rat)):=by
  unfold fW;rw[iK,aqM (by omega),<-rD h];rfl
 rw[kR,e,mD];rfl
def JE(b:∀q∈p,RL K q)(d:p.length<=1024)(a:1<=K):∀q∈fW p,RL (K+1) q:=fun q c=>by
 obtain⟨i,hi,rfl⟩:=List.mem_map.1 c;exact o6 (lV b (iG a) _) (az3 (by have:=List.mem_range.1 hi;omega))
def JF(p:List Rat)(v:Value)(w:World)(hv:QsAt w v p)(K:Nat)(r:∀q∈p,RL K q)(R:p.length<=1024)(f:1<=K)(J:2*K<=549755813888):
  Calls prog 33 #[v] w (lT w (aW aV (fW p))):=by
 obtain⟨A,c,rfl,hc⟩:=hv.form;go_enter func33,ntmps33;go_wp2_with fail;go_loopg [3,4] (p.length-1) (fun k Y Z wr=>∃m,Hid (m+k=p.length-1+1)∧1<=m∧Z= .int .i64 (m:Int)∧GrowQ wr w.1.size Y ((fW p).take (m-1))∧Below w.1.size w wr)
 case atStart=>exact⟨1,by unfold Hid;omega,aE,rfl,by simpa using GrowQ.nil _,aG _ _⟩
 case round=>
  obtain⟨m,e,S,rfl,j,l⟩:=hrel;generalize wr=B at *;have ac:(0:Int)<=(m:Int):=by omega
  cases gk with
  |zero=>
   have ab:¬(m:Int)<(p.length:Int):=by have:=e.out;omega
   have s:=j.nums;rw[cZ (by rw[qO];have:=e.out;omega)] at s;have U:=tZ (fW p) _ B s (fun q d=>aH (JE r R f q d).1 (by omega)) (by rw[qO];omega);clear j e;go_wp2_with fail;refine U.mono ?_;rintro e1 w1 ⟨v1,rfl,f,L⟩;go_wp2;go_ret;exact⟨_,rfl,f,aC l L⟩
  |succ k=>
   have T:m<p.length:=by have:=e.out;omega
   have ad:(m:Int)<(p.length:Int):=by omega
   obtain⟨q,d⟩:∃q,p[m]? =some q:=⟨_,aR T⟩;obtain⟨b,s5,C,V,F,s6,D,X,G,rfl,g,i,Q⟩:=hv.at_ d;have z:=VP S d;have t:=fun W=>r7 m W (by omega);have x:=fun W u v h H=>dqH q (m:Rat) u v W h H K (r q (dG d)) (bU (az3 (by omega)) f) J;have P:((fW p).take (m-1)).length<=1073741824:=by rw[bK,qO];omega
   have E:=aB z;unfold eS at x t;clear z d;have:=St.mk l;generalize q*(m:Rat)=y at *;generalize (m:Rat)=mr at *;have gx:=i.up (b:=B) g;go_wp2_with fail
   go_region_held3 (fun w'=>R4 w' b (m*4) (.bool s5) (.slice C V F) (.bool s6) (.slice D X G))
    (first|(with_reducible exact i.up g)|(with_reducible exact R4.old (i.up g) (by assumption) g))
    (first
     |(go_at_call 74;refine(t _).mono ?_;rintro e7 w7 ⟨v7,rfl,n,N⟩;obtain⟨s7,A7,k7,c7,s8,A8,k8,c8,rfl⟩:=n.form;have:=St.mk N)
     |(go_at_call 89;refine(x _ _ _ Q.up n.up).mono ?_;rintro e9 w9 ⟨v9,rfl,o,O⟩;obtain⟨s9,A9,k9,c9,s0,A0,k0,c0,rfl⟩:=o.form;have:=St.mk O)
     |((refine MP (by rfl) (by rfl) (by rfl) j.up (by rfl) (Bx.new _ _ _) o.up P (Up.out (a:=w)).size ?_;intro v4 w4 I M)))
   all_goals (
    go_wp2;go_roundg k
    case rel=>exact⟨m+1,by have:=e.out;unfold Hid;omega,by omega,by go_num,by rw[mD,E.out];exact I,(Up.out (a:=w)).trans M⟩
    case measure=>omega)
def tV(p:List Rat)(i:Nat):cf (fW p) i=cf p (i+1)*((i+1:Nat):Rat):=by
 unfold fW;rw[qA];split
 ·rfl
 ·rw[bV (l:=p) (by omega),azS]
def dqU(h:aN p):aN (fW p):=by
 by_cases b:fW p=[]
 ·rw[b];exact fun a f=>by simp at f
 ·have i:=qO p;have j:(fW p).length≠0:=fun e=>b (bX e);have g:p≠[]:=fun e=>b (by rw[e];rfl);rw[fT b,tV,show(fW p).length-1+1=p.length-1 by omega];have d:=(fT g).1 h;intro e;rcases Rat.mul_eq_zero.1 e with e|e
  ·exact d e
  ·have:((p.length-1:Nat):Rat)≠0:=by
    intro c;have:=Rat.natCast_inj.1 (c.trans (show(0:Rat)=((0:Nat):Rat) from rfl));omega
   exact this e
def pL{a:List Int}(b:∀n∈a,nl n.natAbs<=K)(c:a.length<=1073741824):∀n∈bB a,nl n.natAbs<=K+1:=fun n hn=>by
 unfold bB at hn;obtain⟨i,hi,rfl⟩:=List.mem_map.1 hn;have:=List.mem_range.1 hi;exact gT _ _ _ _ (iU b _) (cJ (by rw[show((i:Int)+1).natAbs=i+1 by omega];unfold BN;omega))
def exV(h:q.num.sign=1):(q⁻¹).num=(q.den:Int)∧((q⁻¹).den:Int)=q.num:=by
 have a:0<q.num:=Int.sign_eq_one_iff_pos.1 h;refine⟨by rw[Rat.num_inv,h];omega,?_⟩;rw[Rat.den_inv,if_neg (by omega)];omega
def exW(h:q.num.sign= -1):(q⁻¹).num= -(q.den:Int)∧((q⁻¹).den:Int)= -q.num:=by
 have a:q.num<0:=Int.sign_eq_neg_one_iff_neg.1 h;refine⟨by rw[Rat.num_inv,h];omega,?_⟩;rw[Rat.den_inv,if_neg (by omega)];omega
def exX(h:RL K q)(b:1<=K):RL K q⁻¹:=by
 refine⟨?_,?_⟩
 ·rw[Rat.num_inv,fL,dD];by_cases a:q.num.sign=0
  ·rw[a];simp[dO]
  ·have:q.num.sign.natAbs=1:=by rcases Y7 q.num 0 with h|h|h
                                ·rw[bxD h];rfl
                                ·rw[h] at a;exact absurd rfl a
                                ·rw[azZ h];rfl
   rw[this,bxT];exact h.2
 ·rw[Rat.den_inv];split
  ·rw[mJ (by decide) (by decide)];exact b
  ·exact h.1
def exY(x:Rat)(vx:Value)(w:World)(c:RatAt w vx x)(O:x≠0)(K:Nat)(V:RL K x)(hK:K<=17592186044416):
  Calls prog 77 #[vx] w (iF w x⁻¹):=by
 obtain⟨S,J,P,L,E,s,C,y,rfl⟩:=c.form;have bn:=V.1;have bd:=V.2;have ab:=fun W u h=>qG x.num u W h (by omega);have ad:=fun W u h=>sQ x.num u W h (by omega);have ac:=fun W u h=>sQ (x.den:Int) u W h (by rw[dD];omega);have Z:=fun W u h=>tN x u W h (by omega);obtain⟨W,Y,b,X,R⟩:=D8 w [.bool S,.slice J P L,.bool E,.slice s C y] 47 [.bool false,.slice none 0 0,.bool false,.slice none 0 0] 47;have f:=aa X.g4 R.g4;go_enter func77,ntmps77;go_wp2_with fail;(try rw[Y]);clear Y;replace c:=c.be b;have hn:=c.num;refine(ab _ _ hn).mono ?_;rintro e1 w1 ⟨rfl,G⟩;replace X:=X.be G;replace R:=R.be G;replace f:=aa X.k4 R.g4;replace a:=Keep.be G;replace c:=c.ke a;replace hn:=hn.ke a;replace b:=aC b G;clear ab;rcases Y7 x.num 0 with m|m|m
 ·have n:x.num.sign= -1:=bxD m;have l:=exW n;have B:=fun W u T h N=>vK x⁻¹ (-(x.den:Int)) (-x.num) u T W h N l.1 l.2 (by rw[B4];omega);rw[n];unfold iF at B;clear m l n O;generalize x.num=XN at *;generalize (x.den:Int)=XD at *;generalize x⁻¹=XI at *;go_wp2_with fail;replace c:=c.drew;replace hn:=hn.drew;replace X:=X.drew;replace R:=R.drew;replace b:=b.drew;replace f:=aa X.k4 R.g4;have Q:w.1.size+1≠w.1.size:=by omega
  go_region_held3 (fun U=>C4 U w.1.size (.bool S) (.slice J P L) (.bool E) (.slice s C y))
   (first|(with_reducible exact X.k4)|((repeat (first|with_reducible exact X.k4|with_reducible refine kK Q ?_))))
   (first
    |(go_at_call 109;refine(Z _ _ c).mono ?_;rintro e2 w2 ⟨v2,rfl,e,g⟩;obtain⟨E,s,C,y,rfl⟩:=e.form;replace X:=X.be g;replace R:=R.be g;replace f:=aa X.k4 R.g4;replace a:=Keep.be g;replace c:=c.ke a;replace hn:=hn.ke a;(try replace j:=j.ke a);(try replace k:=k.ke a);(try replace d:=d.ke a);replace b:=aC b g)
    |(go_at_call 79;(with_reducible refine(ac _ _ e).mono ?_);rintro e3 w3 ⟨v3,rfl,j,H⟩;obtain⟨s3,A3,k3,c3,rfl⟩:=j.form;replace X:=X.be H;replace R:=R.be H;replace f:=aa X.k4 R.g4;replace a:=Keep.be H;replace c:=c.ke a;replace hn:=hn.ke a;(try replace e:=e.ke a);(try replace k:=k.ke a);(try replace d:=d.ke a);replace b:=aC b H)
    |(go_at_call 79;(with_reducible refine(ad _ _ hn).mono ?_);rintro e5 w5 ⟨v5,rfl,k,I⟩;obtain⟨r,o,q,p,rfl⟩:=k.form;replace X:=X.be I;replace R:=R.be I;replace f:=aa X.k4 R.g4;replace a:=Keep.be I;replace c:=c.ke a;replace hn:=hn.ke a;(try replace e:=e.ke a);(try replace j:=j.ke a);(try replace d:=d.ke a);replace b:=aC b I)
    |(go_at_call 83;refine(B _ _ _ j k).mono ?_;rintro e4 w4 ⟨v4,rfl,d,i⟩;obtain⟨F,t,D,z,r,o,q,p,rfl⟩:=d.form;replace X:=X.be i;replace R:=R.be i;replace f:=aa X.k4 R.g4;replace a:=Keep.be i;replace c:=c.ke a;replace hn:=hn.ke a;(try replace e:=e.ke a);(try replace j:=j.ke a);(try replace k:=k.ke a);replace b:=aC b i))
  all_goals (
   go_wp2_with fail;obtain⟨W6,A,R,b,a,M⟩:=R.put4 b (by omega) (.bool F) (.slice t D z) (.bool r) (.slice o q p) rfl rfl;replace X:=M X (by omega);replace d:=d.ke a;rw[A];clear A;replace f:=aa X.k4 R.k4;exact aM (v:= .agg #[.bool F,.slice t D z,.bool r,.slice o q p]) (by simp[results,results77,go_sem,R.k4]) rfl ⟨_,rfl,d,b⟩;)
 ·exact absurd (Rat.num_eq_zero.1 m) O
 ·have n:x.num.sign=1:=azZ m;have l:=exV n;have B:=fun W u T h N=>vK x⁻¹ (x.den:Int) x.num u T W h N l.1 l.2 (by omega);rw[n];unfold iF at B;clear m l n O;generalize x.num=XN at *;generalize (x.den:Int)=XD at *;generalize x⁻¹=XI at *;go_wp2_with fail;replace c:=c.drew;replace hn:=hn.drew;replace X:=X.drew;replace R:=R.drew;replace b:=b.drew;replace f:=aa X.k4 R.g4;have Q:w.1.size+1≠w.1.size:=by omega
  go_region_held3 (fun U=>C4 U w.1.size (.bool S) (.slice J P L) (.bool E) (.slice s C y))
   (first|(with_reducible exact X.k4)|((repeat (first|with_reducible exact X.k4|with_reducible refine kK Q ?_))))
   (first
    |(go_at_call 109;refine(Z _ _ c).mono ?_;rintro e2 w2 ⟨v2,rfl,e,g⟩;obtain⟨E,s,C,y,rfl⟩:=e.form;replace X:=X.be g;replace R:=R.be g;replace f:=aa X.k4 R.g4;replace a:=Keep.be g;replace c:=c.ke a;replace hn:=hn.ke a;(try replace d:=d.ke a);replace b:=aC b g)
    |(go_at_call 83;refine(B _ _ _ e hn).mono ?_;rintro e4 w4 ⟨v4,rfl,d,i⟩;obtain⟨F,t,D,z,r,o,q,p,rfl⟩:=d.form;replace X:=X.be i;replace R:=R.be i;replace f:=aa X.k4 R.g4;replace a:=Keep.be i;replace c:=c.ke a;replace hn:=hn.ke a;(try replace e:=e.ke a);replace b:=aC b i))
  all_goals (
   go_wp2_with fail;obtain⟨W6,A,R,b,a,M⟩:=R.put4 b (by omega) (.bool F) (.slice t D z) (.bool r) (.slice o q p) rfl rfl;replace X:=M X (by omega);replace d:=d.ke a;rw[A];clear A;replace f:=aa X.k4 R.k4;exact aM (v:= .agg #[.bool F,.slice t D z,.bool r,.slice o q p]) (by simp[results,results77,go_sem,R.k4]) rfl ⟨_,rfl,d,b⟩;)
def exZ(x y:Rat)(V Z:Value)(w:World)(k:Glob w)(b:RatAt w V x)(c:RatAt w Z y)(h0:y≠0)(K:Nat)(bx:RL K x)(r:RL K y)(h1:1<=K)(G:10*K+20<=aJ):
  Calls prog 27 #[V,Z] w (iF w (x/y)):=by
 obtain⟨O,l,H,s,P,m,I,t,rfl⟩:=b.form;obtain⟨Q,n,J,z,S,o,L,A,rfl⟩:=c.form;rw[bxV];have ac:=fun W u h=>exY y u W h h0 K r (by unfold aJ at G;omega);have ad:=fun W u v k ab h2=>bq6 x y⁻¹ u v W k ab h2 K bx (exX r h1) G;obtain⟨W,D,a,X,Y,R⟩:=gE w [.bool O,.slice l H s,.bool P,.slice m I t] 47 [.bool Q,.slice n J z,.bool S,.slice o L A] 47 [.bool false,.slice none 0 0,.bool false,.slice none 0 0] 47;have i:=aa X.g4 (aa Y.g4 R.g4);go_enter func27,ntmps27;go_wp2_with fail;(try rw[D]);clear D;replace b:=b.be a;replace c:=c.be a;replace b:=b.drew;replace c:=c.drew;replace X:=X.drew;replace Y:=Y.drew;replace R:=R.drew;replace a:=a.drew;replace i:=aa X.k4 (aa Y.k4 R.g4);have ae:w.1.size+1+1≠w.1.size:=by omega
 have af:w.1.size+1+1≠w.1.size+1:=by omega
 go_region_held3 (fun w'=>C4 w' w.1.size (.bool O) (.slice l H s) (.bool P) (.slice m I t)∧C4 w' (w.1.size+1) (.bool Q) (.slice n J z) (.bool S) (.slice o L A))
  (first|(with_reducible exact⟨X.k4,Y.k4⟩)|(refine⟨?_,?_⟩<;>(repeat (first|with_reducible exact X.k4|with_reducible exact Y.k4|with_reducible refine kK ae ?_|with_reducible refine kK af ?_))))
  (first
   |(go_at_call 77;refine(ac _ _ c).mono ?_;rintro e5 w5 ⟨v5,rfl,j,f⟩;obtain⟨s5,A5,k5,c5,s6,A6,k6,c6,rfl⟩:=j.form;replace X:=X.be f;replace Y:=Y.be f;replace R:=R.be f;replace i:=aa X.k4 (aa Y.k4 R.g4);replace d:=Keep.be f;replace b:=b.ke d;replace c:=c.ke d;(try replace e:=e.ke d);replace a:=aC a f)
   |(go_at_call 46;refine(ad _ _ _ (k.be a) b j).mono ?_;rintro e7 w7 ⟨v7,rfl,e,g⟩;obtain⟨T,p,M,B,U,q,N,C,rfl⟩:=e.form;replace X:=X.be g;replace Y:=Y.be g;replace R:=R.be g;replace i:=aa X.k4 (aa Y.k4 R.g4);replace d:=Keep.be g;replace b:=b.ke d;replace c:=c.ke d;(try replace j:=j.ke d);replace a:=aC a g))
 all_goals (
  go_wp2_with fail;obtain⟨W6,E,R,a,d,F⟩:=R.put4 a (by omega) (.bool T) (.slice p M B) (.bool U) (.slice q N C) rfl rfl;replace X:=F X (by omega);replace Y:=F Y (by omega);replace e:=e.ke d;rw[E];clear E;replace i:=aa X.k4 (aa Y.k4 R.k4);exact aM (v:= .agg #[.bool T,.slice p M B,.bool U,.slice q N C]) (by simp[results,results27,go_sem,R.k4]) rfl ⟨_,rfl,e,a⟩
 )
def dq5(A:List Rat):Rat:=if (A.length-1)*(A.length-1-1)/2%2=1 then -(Y5 A (fW A)/cf A (A.length-1)) else Y5 A (fW A)/cf A (A.length-1)
def dzE(a:List (List UInt8)):List UInt8:=if vl a=true∧2<=a.length then cW (dq5 (aU a)) else []
def dzF(a:List (List UInt8)):Int:=if vl a=true then (if 2<=a.length then 0 else 3) else 1
def dqT(d:∀q∈Q,(q.den:Int)∣D):∀q∈fW Q,(q.den:Int)∣D:=fun q a=>by
 unfold fW at a;obtain⟨i,hi,rfl⟩:=List.mem_map.1 a;have hi:=List.mem_range.1 hi;have b:=d (cf Q (i+1)) (by rw[fZ (by omega)];exact az6 _);refine bqF (Int.ofNat_dvd.2 ?_) b;rw[Rat.den_mul,Rat.den_natCast,o9];exact Nat.div_dvd_of_dvd (dzS _ _)
def exR(a:∀q∈Q,(q.den:Int)∣D):bB (cC Q D)=cC (fW Q) D:=by
 have d:(bB (cC Q D)).length=Q.length-1:=by rw[lZ,oN]
 have e:(cC (fW Q) D).length=Q.length-1:=by rw[oN,qO]
 refine SP (fun i=> ?_);by_cases b:i<Q.length-1
 ·rw[aR (by omega),aR (by omega),<-fZ,<-fZ];congr 1;refine Rat.intCast_inj.1 ?_;rw[JC _ _ (dqT a),sB,eJ,JC _ _ a,tV,show((i:Int)+1)=((i+1:Nat):Int) from rfl,dzN];grind
 ·rw[fU (by omega),fU (by omega)]
def dqL(w:World)(b:Nat)(q:Rat):Prop:=∃s A l c s' A' l' c',Bx w b [.bool s,.slice A l c,.bool s',.slice A' l' c'] 47∧RatAt w (.agg #[.bool s,.slice A l c,.bool s',.slice A' l' c']) q
section
variable {W0 w:World}{g:Nat}{q:Rat}{s s':Bool}{A A':Option Addr}{l c l' c':Nat}
def exS(h:RatAt w (.agg #[.bool s,.slice A l c,.bool s',.slice A' l' c']) q)(a:Below W0.1.size W0 w):dqL (w.alloc (.cells #[.bool s,.slice A l c,.bool s',.slice A' l' c'] 47)) w.1.size q∧Below W0.1.size W0 (w.alloc (.cells #[.bool s,.slice A l c,.bool s',.slice A' l' c'] 47)):=
 ⟨⟨_,_,_,_,_,_,_,_,Bx.new _ _ _,h.be ((aG _ _).alloc aE _)⟩,a.alloc a.size _⟩
def exT(D:Bx w g [.bool false,.slice none 0 0,.bool false,.slice none 0 0] 47)(h:RatAt w (.agg #[.bool s,.slice A l c,.bool s',.slice A' l' c']) q)(b:Below W0.1.size W0 w)(i:W0.1.size<=g):
  dqL ((((w.setCell ⟨g,0,none⟩ (.bool s)).setCell ⟨g,1,none⟩ (.slice A l c)).setCell ⟨g,2,none⟩ (.bool s')).setCell ⟨g,3,none⟩ (.slice A' l' c')) g q∧Below W0.1.size W0 ((((w.setCell ⟨g,0,none⟩ (.bool s)).setCell ⟨g,1,none⟩ (.slice A l c)).setCell ⟨g,2,none⟩ (.bool s')).setCell ⟨g,3,none⟩ (.slice A' l' c')):=by
 obtain⟨j,e,a,d,f, -⟩:=D.put4 b i (.bool s) (.slice A l c) (.bool s') (.slice A' l' c') rfl rfl;rw[e];exact⟨⟨_,_,_,_,_,_,_,_,a,h.ke f⟩,d⟩
end
def exU(a:List (List UInt8))(va:Value)(w:World)(i:Glob w)(ha:StrsAt w va a)(K:Nat)(a9:a.length<=63)(aw:∀l∈a,l.length<=1073741824)(Y:∀q∈aU a,RL K q)(a1:1<=K)(hK:K<=10000):
  Calls prog 9 #[va] w (bx0 w (dzE a) (dzF a)):=by
 obtain⟨A,c,rfl,hc⟩:=ha.form;go_enter func9,ntmps9;go_wp2_with fail;refine(azT a _ _ i ha (by omega) (fun _=>aw) K (1+65*K) (fun _=>Y) aE (by unfold aJ;omega)).mono ?_;rintro e1 w1 ⟨v1,bh,xs,D,rfl,M,y,ah,aj⟩;obtain⟨A1,c1,rfl,bg⟩:=M.form;obtain⟨s1,B1,k1,d1,rfl⟩:=y.form;obtain⟨k,E,U,X⟩:=bI w1 [.bool s1,.slice B1 k1 d1] 43;replace M:=M.be U;replace y:=y.be U;have J:=aC aj U;have cX:=X.k2;cases hva:vl a with
 |false=>
  have o:Hid (dzE a=[]∧dzF a=1):=by unfold Hid dzE dzF;rw[if_neg (by rw[hva];simp),if_neg (by rw[hva];simp)];exact⟨rfl,rfl⟩
  clear ah hva;go_wp2_with fail;(try rw[E]);(try clear E);go_ret2;unfold bx0;rw[o.out.1,o.out.2];exact⟨rfl,J⟩
 |true=>
  obtain⟨rfl,f⟩:=ah hva;have O:=(pJ hva).2.2;have tx:=oO f.pos f.dvd O;have x:=sA _ D K _ Y f.nl_;have t:=VS a;have N:(cC (aU a) D).length=a.length:=by rw[oN,t]
  by_cases j:2<=a.length
  ·have o:Hid (dzE a=cW (dq5 (aU a))∧dzF a=0):=by unfold Hid dzE dzF;rw[if_pos ⟨hva,j⟩,if_pos hva,if_pos j];exact⟨rfl,rfl⟩
   obtain⟨n,hn⟩:∃n,a.length=n+1:=⟨a.length-1,by omega⟩;obtain⟨m,hm⟩:∃m,n=m+1:=⟨n-1,by omega⟩;have az:cC (aU a) D≠[]:=fun e=>by rw[e] at N;simp at N;omega
   have ar:aU a≠[]:=fun e=>by rw[e] at t;simp at t;omega
   have ab:∀q∈fW (aU a),(q.den:Int)∣D:=dqT f.dvd;have G:=exR f.dvd (Q:=aU a);have S:=pL x (by omega);have ty:=oO f.pos ab (dqU O);have ly:(cC (fW (aU a)) D).length=n:=by rw[oN,qO,t,hn];rfl
   rw[G] at S;have au:cf (aU a) n≠0:=by have h:=(fT ar).1 O;rw[t,hn] at h;exact h
   have aq:((cf (cC (aU a) D) n:Int):Rat)/D=cf (aU a) n:=by
    rw[JC _ _ f.dvd,bxV,exK,Rat.mul_inv_cancel _ (fun e=>by have:=Rat.intCast_inj.1 (e.trans (show(0:Rat)=((0:Int):Rat) from rfl));have:=f.pos;omega),aqS]
   have bb:nl D.natAbs<=1+65*K:=aH f.nl_ aE;have ap:RL (K+1) (cf (aU a) n):=bU (lV Y (iG a1) n) (by omega);have ac:=fun (B:Option Addr) (d:Nat) (W:World)=>(JO (cC (aU a) D).length d B W (by omega)).mono (R':=fun e z=>e= .returned (.int .i64 (n:Int))∧W=z) (fun e z h=>⟨by rw[h.1,N,hn];congr 2;omega,h.2.symm⟩);have am:=fun W h=>JN (cC (aU a) D) (.slice A1 (cC (aU a) D).length c1) W h _ x (by unfold aJ;omega) (by omega);rw[G] at am;have ag:=fun W u v p q i I j h3 h4=>dx4 (cC (aU a) D) (cC (fW (aU a)) D) D D u v p q W i I j h3 h4 tx ty f.pos f.pos (K+(1+65*K)+1) (fun n hn=>aH (x n hn) (by omega)) (fun n hn=>aH (S n hn) (by omega)) (by omega) (by omega) (by omega) (by omega) (by omega);rw[cy8 f.pos f.pos f.dvd ab] at ag;have kr:=cxQ f.pos f.pos f.dvd ab (fun n hn=>aH (x n hn) (show _<=K+(1+65*K)+1 by omega)) (fun n hn=>aH (S n hn) (show _<=K+(1+65*K)+1 by omega)) (by omega) (by omega) (by omega) (by rw[qO];omega);have ae:=fun W h=>azC (cC (aU a) D) (.slice A1 (cC (aU a) D).length c1) W h az (by omega);rw[show(cC (aU a) D).length-1=n by omega] at ae;have ad:=fun W u v i I j=>I3 (cf (cC (aU a) D) n) D u v W i I j (K+(1+65*K)) (iU x n) (by omega) (by unfold aJ;omega);rw[aq] at ad;have an:=fun W u v i I j=>exZ (Y5 (aU a) (fW (aU a))) (cf (aU a) n) u v W i I j au (500*(K+(1+65*K)+1)+60000) kr (bU ap (by omega)) (by omega) (by unfold aJ;omega);have kq:=xS kr ap;have ao:=fun W u h=>exP (Y5 (aU a) (fW (aU a))/cf (aU a) n) u W h (aH kq.1 (by omega));have ax:=fun W v i h=>I4 (Y5 (aU a) (fW (aU a))/cf (aU a) n) v W i h _ kq (by omega);have ay:=fun W v i h=>I4 (-(Y5 (aU a) (fW (aU a))/cf (aU a) n)) v W i h _ (C7 kq) (by omega);have C:Hid (dq5 (aU a)=if n*m/2%2=1 then -(Y5 (aU a) (fW (aU a))/cf (aU a) n) else Y5 (aU a) (fW (aU a))/cf (aU a) n):=by
    unfold Hid dq5;rw[t,hn,show n+1-1=n by omega,show n-1=m by omega]
   have av:n*m<=63*63:=C5 (by omega) (by omega);obtain⟨P,hP⟩:∃P,n*m=P:=⟨_,rfl⟩;rw[hP] at C av;have p0:¬(n:Int)<1:=by omega
   have P1:Hid (wrap64 ((n:Int)-1)=(m:Int)):=by unfold Hid wrap64;omega
   have P2:Hid (wrap64 ((n:Int)*(m:Int))=(P:Int)):=by unfold Hid;rw[<-dz5,hP];unfold wrap64;omega
   obtain⟨H,hH⟩:∃H,P/2=H:=⟨_,rfl⟩;rw[hH] at C;have p3:(P:Int).tdiv 2=(H:Int):=by rw[Int.tdiv_eq_ediv_of_nonneg (by omega)];omega
   have P4:Hid (wrap64 (H:Int)=(H:Int)):=by unfold Hid wrap64;omega
   unfold iF at ag ad an ao;unfold dW at ae;have ai:WholeAt k (.slice A1 (cC (aU a) D).length c1) (cC (aU a) D):=M;clear ah hva O tx x N t j hn hm az ar ab G S ty ly au aq bb ap kr kq f hP av M Y aw a9;generalize Y5 (aU a) (fW (aU a))=RT at *;generalize cf (aU a) n=LQ at *;generalize cf (cC (aU a) D) n=LN at *;generalize RT/LQ=Q at *;generalize cC (fW (aU a)) D=NB at *;generalize cC (aU a) D=NA at *;go_wp2_with (go_at_call 25;refine(ac _ _ _).mono ?_;rintro G wD ⟨rfl,rfl⟩);(try rw[E]);(try clear E);have:=St.mk aj;have:=St.mk U;go_cut [8] (fun s8 wx=>∃g,s8= .pointer (some ⟨g,0,none⟩)∧k.1.size<=g∧dqL wx g Q∧Below k.1.size k wx)
   case first=>
    go_region_held3 (fun z=>C2 z w1.1.size (.bool s1) (.slice B1 k1 d1)) (with_reducible exact X.up.k2)
     (first
      |(go_at_call 26;refine(am _ ai.up).mono ?_;rintro e3 w3 ⟨v3,rfl,h3,a2⟩;have:=St.mk a2)
      |(go_at_call 20;refine(ag _ _ _ _ _ i.up ai.up h3.up y.up y.up).mono ?_;rintro e4 w4 ⟨v4,rfl,h4,a3⟩;have:=St.mk a3)
      |(go_at_call 29;refine(ae _ ai.up).mono ?_;rintro e5 w5 ⟨v5,rfl,h5,a4⟩;have:=St.mk a4)
      |(go_at_call 28;refine(ad _ _ _ i.up h5.up y.up).mono ?_;rintro e6 w6 ⟨v6,rfl,T,Z⟩;have:=St.mk Z)
      |(go_at_call 27;refine(an _ _ _ i.up h4.up T.up).mono ?_;rintro e7 F ⟨v7,rfl,h7,a6⟩;obtain⟨s7,A7,k7,c7,s8,A8,k8,c8,rfl⟩:=h7.form;have:=St.mk a6;have TT:=Up.out (a:=k) (b:=F);have ll:=TT.size; 
        have l3:=(Up.out (a:=k) (b:=w3)).size;have l5:=(Up.out (a:=k) (b:=w5)).size;(try have l4:=(Up.out (a:=k) (b:=w4)).size);(try have l6:=(Up.out (a:=k) (b:=w6)).size);
        (try (have r:=(Bx.newAt k [.bool false,.slice none 0 0,.bool false,.slice none 0 0] 47 k.1.size rfl).up (b:=F);have R:=r.g4));
        (try (have r:=(Bx.newAt w3 [.bool false,.slice none 0 0,.bool false,.slice none 0 0] 47 w3.1.size rfl).up (b:=F);have R:=r.g4));
        (try (have r:=(Bx.newAt w4 [.bool false,.slice none 0 0,.bool false,.slice none 0 0] 47 w4.1.size rfl).up (b:=F);have R:=r.g4));
        (try (have r:=(Bx.newAt w5 [.bool false,.slice none 0 0,.bool false,.slice none 0 0] 47 w5.1.size rfl).up (b:=F);have R:=r.g4));
        (try (have r:=(Bx.newAt w6 [.bool false,.slice none 0 0,.bool false,.slice none 0 0] 47 w6.1.size rfl).up (b:=F);have R:=r.g4))))
    all_goals (
     go_wp2;go_meet;refine⟨_,rfl,by omega,?_⟩
     first|(with_reducible exact exS h7 TT)|(with_reducible exact exT ‹_› h7 TT (by omega)))
   case rest=>
    clear am ag ae ad an ac ai y X;obtain⟨g,rfl,hg,⟨s4,A4,k4,c4,s5,A5,k5,c5,V,hV⟩,a7⟩:=hcut;have L:=aC J a7;have ba:=aH J.size hg;have cV:=V.k4;by_cases af:H%2=1
    ·rw[if_pos af] at C;have p5:(H:Int).tmod 2=1:=by rw[R5 (by omega)];omega
     have p1:=P1.out;have p2:=P2.out;have p4:=P4.out;clear af ax;go_wp2_with fail;refine(ao _ _ hV).mono ?_;rintro e6 w6 ⟨v6,rfl,T,Z⟩;obtain⟨s6,A6,k6,c6,s7,A7,k7,c7,rfl⟩:=T.form;have V6:=V.be Z;have a0:=V6.g4;have a5:=aC L Z;go_upto_region 10 with fail;obtain⟨W8,e8,V8,ak,a8,bf⟩:=V6.put4 a5 ba (.bool s6) (.slice A6 k6 c6) (.bool s7) (.slice A7 k7 c7) rfl rfl;rw[e8];clear e8;have bc:=V8.k4;have h8:=T.ke a8;clear V V6 cV a0;go_wp2_with fail;refine(ay _ _ (i.be ak) h8).mono ?_;rintro e9 w9 ⟨rfl,al⟩;go_wp2;go_ret2;unfold bx0;rw[o.out.1,o.out.2,C.out];exact⟨rfl,aC ak al⟩
    ·rw[if_neg af] at C;have p5:(H:Int).tmod 2=0:=by rw[R5 (by omega)];omega
     have p1:=P1.out;have p2:=P2.out;have p4:=P4.out;clear af ay ao;go_wp2_with fail;refine(ax _ _ (i.be L) hV).mono ?_;rintro e9 w9 ⟨rfl,al⟩;go_wp2;go_ret2;unfold bx0;rw[o.out.1,o.out.2,C.out];exact⟨rfl,aC L al⟩
  ·have o:Hid (dzE a=[]∧dzF a=3):=by unfold Hid dzE dzF;rw[if_neg (fun h=>j h.2),if_pos hva,if_neg j];exact⟨rfl,rfl⟩
   have ac:=fun (B:Option Addr) (d:Nat) (W:World)=>(JO (cC (aU a) D).length d B W (by omega)).mono (R':=fun e z=>e= .returned (.int .i64 (((cC (aU a) D).length:Int)-1))∧W=z) (fun e z h=>⟨h.1,h.2.symm⟩);have p0:((cC (aU a) D).length:Int)-1<1:=by omega
   clear ah hva O tx x N t j f;generalize cC (aU a) D=NA at *;go_wp2_with (go_at_call 25;refine(ac _ _ _).mono ?_;rintro G wD ⟨rfl,rfl⟩);(try rw[E]);(try clear E);go_ret2;unfold bx0;rw[o.out.1,o.out.2];exact⟨rfl,J⟩
def TsAt.up{a b:World}[u:Up a b]{c:List (List (List UInt8))}(h:TsAt a B 22 v c):TsAt b B 22 v c:=h.be u.out
def PRow.typ(d:PRow w B e v f){b:Nat}(a:v.ownBlock=some b):∃cur,w.heap[b]? =some (.cells cur e (0,0)):=by
 rcases d with ⟨rfl,_⟩|⟨g,h,cur,rfl,_,c,_⟩
 ·simp[Value.ownBlock] at a
 ·simp[Value.ownBlock] at a;subst a;exact⟨cur,c⟩
def PRow.km(h:PRow w B e v i)(c:w.grownBy w' v.ownBlock):KM w w':=⟨c.size,fun p k x a=>by
 refine(World.cell?_of_block (c.block p.block (block_lt_of_cell a) (fun b=> ?_))).trans a;rcases h with ⟨rfl,_⟩|⟨g,l,cur,rfl,_,f,_,_,_,_,hn⟩
 ·simp[Value.ownBlock] at b
 ·simp[Value.ownBlock] at b;unfold World.cell? at a;rw[b,f] at a;simp only at a;split at a
  ·cases a
  ·rw[<-Array.getElem?_toList] at a;obtain⟨j,m,c',d⟩:=hn _ (dG a);cases d⟩
def QsAt.grown(h:QsAt w u l)(i:PRow w B e v r)(o:e≠58)(g:w.grownBy w' v.ownBlock):QsAt w' u l:=by
 obtain⟨A,c,f,n,h⟩:=h;refine⟨A,c,f,n,?_⟩;rcases h with h|⟨b,j,f,d,q,p⟩
 ·exact .inl h
 ·refine .inr ⟨b,j,f,⟨(g.block b d.lt (fun m=> ?_)).trans d.1,d.2⟩,q,p.ke (i.km g)⟩;obtain⟨s,k⟩:=i.typ m.symm;have a:w.heap[b]? =some (.cells j.flatten.toArray 58 (0,0)):=d.1;rw[k] at a;injection a with a;injection a with _ a;exact o a
abbrev QQs:=RowsAt QsAt
def QQs.be{b:List (List Rat)}(h:QQs w B 50 v b)(a:Below w.1.size w w'):QQs w' B 50 v b:=by
 obtain⟨j,c,d,e⟩:=h;exact⟨j,c.be a,d,fun i u l g f=>(e i u l g f).be a⟩
def QQs.up{a b:World}[u:Up a b]{c:List (List Rat)}(h:QQs a B 50 v c):QQs b B 50 v c:=QQs.be h u.out
def QQs.push{j:Value}{c:List Value}{e:List (List Rat)}(f:PRow w B 50 v c)(g:c.length=e.length)(m:∀(i:Nat) (u:Value) (l:List Rat),c[i]? =some u->e[i]? =some l->QsAt w u l)(o:QsAt w u l)
  (n:PRow w' B 50 j (c++[u]))(h:w.grownBy w' v.ownBlock):QQs w' B 50 j (e++[l]):=by
 refine⟨_,n,by rw[bG,bG,g];rfl,fun i x y a b=> ?_⟩;rcases dE i c.length with d|d
 ·rw[gA d] at a;rw[gA (by omega)] at b;exact(m i x y a b).grown f (by decide) h
 ·rw[fK d] at a;rw[fK (by omega),<-g] at b;have k:i-c.length=0:=by
   have:=(List.getElem?_eq_some_iff.1 a).1;simp at this;omega
  rw[k] at a b;simp at a b;subst a;subst b;exact o.grown f (by decide) h
def ML:(Tryz.prog.info? 50).map (fun i=>(i.zero,i.size,i.bytes))=some (some (.slice none 0 0),1,24):=by kernel_rfl
def QQs.one{A:Option Addr}{k c:Nat}(h:QsAt w (.slice A k c) l)(d:B<=w.1.size):QQs (w.alloc (.cells #[.slice A k c] 50)) B 50 (.slice (some ⟨w.1.size,0,none⟩) 1 1) [l]:=by
 refine⟨[.slice A k c],.inr ⟨w.1.size,1,#[.slice A k c],rfl,d,heap_alloc_new w _,aE,by decide,rfl,rfl,fun u a=> ?_⟩,rfl,fun i u e a b=> ?_⟩
 ·exact⟨A,k,c,by simpa using a⟩
 ·cases i with
  |zero=>
   injection a with a;injection b with b;subst a b;exact h.be ((aG _ _).alloc aE _)
  |succ i=>simp at a
end Go.Proofs.YticcgnnefilhcaaGreatDoor
namespace Go.Proofs.YticcgnnefilhcaaGreatDoor
variable{n:Nat}
def dy6{u:Vc}{R:List Vc}(h:∀v∈R,v 0=0):dyV (n+1) (u :: R)=u 0*dyV n (R.map bN):=cy1 n u R h
def eyJ{L:List Vc}(h:∀v∈L,v 0=0):dyV (n+1) L=0:=cy0 L [] h
def cyI{n:Nat}:∀(c:Nat) (L:List Vc),c<=L.length->(∀i (h:i<L.length) j,j<c->L[i] j=if i=j then 1 else 0)->dyV (n+c) L=dyV n ((L.drop c).map fun v i=>v (i+c))
 |0,L,_,_=>by simp
 |c+1,[],h,_=>by simp at h
 |c+1,u :: R,hl,h=>by
  have a:=h 0 (by simp) 0 (by omega)
  have b:=dy6 (n:=n+c) (u:=u) (R:=R) (fun v hv=>by
   obtain⟨i,hi,rfl⟩:=List.getElem_of_mem hv;exact h (i+1) (by simpa using hi) 0 (by omega))
  simp only[List.getElem_cons_zero,if_pos] at a
  rw[<-Nat.add_assoc,b,a,cyI c (R.map bN) (by simpa using hl) (fun i hi j e=>by
   have d:=h (i+1) (by simpa using hi) (j+1) (by omega);simpa [bN] using d),Rat.one_mul,List.drop_succ_cons,List.map_drop,List.map_drop,List.map_map]
  rfl
def cyJ(c:Nat)(L:List Vc)(b:c=L.length)(h:∀i (h:i<L.length) j,j<c->L[i] j=if i=j then 1 else 0):dyV c L=1:=by
 have a:=cyI (n:=0) c L (by omega) h;rw[Nat.zero_add] at a;rw[a];rfl
def eyK{c:Nat}{L:List Vc}(a:c<=L.length)(h:∀i (h:i<L.length) j,j<c->L[i] j=if i=j then 1 else 0)(d:∀v∈L.drop c,v c=0):dyV (n+1+c) L=0:=by
 rw[cyI c L a h];refine eyJ fun v hv=> ?_;obtain⟨p,b,rfl⟩:=List.mem_map.1 hv;show p (0+c)=0
 rw[Nat.zero_add];exact d p b
def Alt.exch{G:List Vc->Rat}(h:Alt n G)(A B C:List Vc)(u v:Vc)(a:A.length+B.length+C.length+2=n):G (A++u :: (B++v :: C))= -G (A++v :: (B++u :: C)):=by
 have b:=h.far (fun i=>u i+v i) C B A a;have e:∀x y:Vc,A++x :: (B++y :: C)=(A++x :: B)++y :: C:=fun x y=>by simp
 rw[h.add A u v _ (by simp;omega),e,e,h.add (A++u :: B) u v C (by simp;omega),h.add (A++v :: B) u v C (by simp;omega),<-e,<-e,<-e,<-e,h.far u C B A a,h.far v C B A a] at b;grind
def Alt.elim{n:Nat}{G:List Vc->Rat}(h:Alt n G)(f:Vc->Rat)(p:Vc):∀(R A:List Vc),p∈A->A.length+R.length=n->G (A++R)=G (A++R.map fun v i=>v i+f v*p i)
 |[],_,_,_=>rfl
 |v :: R,A,hp,a=>by
  have b:=h.addto (A:=A) (B:=R) (Or.inl hp) v (f v) (by simp at a;omega);have c:=h.elim f p R (A++[fun i=>v i+f v*p i]) (by simp[hp]) (by simp at a⊢;omega);rw[<-b,List.map_cons];simpa using c
end Go.Proofs.YticcgnnefilhcaaGreatDoor
namespace Go.Proofs.YticcgnnefilhcaaGreatDoor
open Sos
def rY:RL 1 (1:Rat):=⟨cJ (m:=1) (by unfold BN;decide),cJ (m:=1) (by unfold BN;decide)⟩
end Go.Proofs.YticcgnnefilhcaaGreatDoor
namespace Go.Proofs.YticcgnnefilhcaaGreatDoor
open Go.RowKit Sos Tryz
variable{B K N b c e g i j k l n p s:Nat}{x y:List Rat}{a d:Option Nat}{f m v:Value}{F q u:Rat}{W w w':World}{A:Option Addr}
section
variable {n:Nat}{G:List Vc->Rat}(h:Alt n G)
include h
def Alt.set_mul{L:List Vc}(d:L.length=n)(c:p<L.length)(f:Rat)(y:Vc)(e:L[p]=fun j=>f*y j):G L=f*G (L.set p y):=by
 have a:L=L.take p++L[p] :: L.drop (p+1):=by rw[List.getElem_cons_drop,List.take_append_drop]
 have b:L.set p y=L.take p++y :: L.drop (p+1):=List.set_eq_take_append_cons_drop.trans (if_pos c);rw[b];conv=>lhs;rw[a,e]
 exact h.mul _ f y _ (by rw[bK,eX];omega)
def Alt.set_swap{L:List Vc}(s:L.length=n)(q:k<L.length)(u:p<k):G ((L.set p L[k]).set k (L[p]'(by omega)))= -G L:=by
 have d:p<L.length:=by omega
 have b:L=L.take p++L[p] :: L.drop (p+1):=by rw[List.getElem_cons_drop,List.take_append_drop]
 have r:k-(p+1)<(L.drop (p+1)).length:=by rw[eX];omega
 have c:L.drop (p+1)=(L.drop (p+1)).take (k-(p+1))++L[k] :: (L.drop (p+1)).drop (k-(p+1)+1):=by
  have:L[k]=(L.drop (p+1))[k-(p+1)]:=by rw[List.getElem_drop];congr 1;omega
  rw[this,List.getElem_cons_drop,List.take_append_drop]
 have a:=h.exch (L.take p) ((L.drop (p+1)).take (k-(p+1))) ((L.drop (p+1)).drop (k-(p+1)+1)) L[p] L[k] (by rw[bK,bK,eX,eX,eX];omega);rw[<-c,<-b] at a;rw[a,Rat.neg_neg];congr 1;refine SP fun i=> ?_;rw[List.getElem?_set,eM,List.getElem?_set];have m:(L.take p).length=p:=by rw[bK];omega
 have o:((L.drop (p+1)).take (k-(p+1))).length=k-(p+1):=by rw[bK,eX];omega
 by_cases e:i<p
 ·rw[if_neg (by omega),if_neg (by omega),gA (by omega),fC,if_pos e]
 ·rw[fK (by omega),m];by_cases f:i=p
  ·subst f;rw[if_neg (by omega),if_pos rfl,if_pos d,dzC];rfl
  ·obtain⟨j,rfl⟩:∃j,i=p+1+j:=⟨i-(p+1),by omega⟩;rw[show p+1+j-p=j+1 by omega,List.getElem?_cons_succ];by_cases g:j<k-(p+1)
   ·rw[if_neg (by omega),if_neg (by omega),gA (by omega),fC,if_pos g,T8]
   ·rw[fK (by omega),o];by_cases l:p+1+j=k
    ·subst l;rw[if_pos rfl,if_pos (by omega),show j-(p+1+j-(p+1))=0 by omega];rfl
    ·obtain⟨t,rfl⟩:∃t,j=k-(p+1)+1+t:=⟨j-(k-(p+1)+1),by omega⟩;rw[show k-(p+1)+1+t-(k-(p+1))=t+1 by omega,List.getElem?_cons_succ,if_neg (by omega),if_neg (by omega),T8,T8]
def Alt.set_elim(e:Vc->Rat){L M:List Vc}(s:L.length=n)(u:M.length=n)(w:p<L.length)(o:M[p]'(by omega)=L[p])(d:∀i (hi:i<L.length),i≠p->M[i]'(by omega)=fun j=>L[i] j+e L[i]*L[p] j):G M=G L:=by
 have g:L=L.take p++L[p] :: L.drop (p+1):=by rw[List.getElem_cons_drop,List.take_append_drop]
 have k:M=(L.take p).map (fun v j=>v j+e v*L[p] j)++L[p] :: (L.drop (p+1)).map (fun v j=>v j+e v*L[p] j):=by
  have f:((L.take p).map (fun v j=>v j+e v*L[p] j)).length=p:=by rw[cH,bK];omega
  refine cz0 (by rw[bG,f,eG,cH,eX];omega) fun i hi r=> ?_;rw[List.getElem_append];split
  ·rename_i t;rw[d i (by omega) (by omega),List.getElem_map,List.getElem_take]
  ·rename_i q;by_cases l:i=p
   ·subst l;simp only[f,dzC,List.getElem_cons_zero];exact o
   ·obtain⟨j,rfl⟩:∃j,i=p+1+j:=⟨i-(p+1),by omega⟩;have m:p+1+j-((L.take p).map (fun v j=>v j+e v*L[p] j)).length=j+1:=by omega
    simp only[m,List.getElem_cons_succ,List.getElem_map,List.getElem_drop];exact d _ (by omega) (by omega)
 rw[k];conv=>rhs;rw[g]
 have a:=h.front L[p] (L.take p) (L.drop (p+1)) [] (by simp;omega);have b:=h.front L[p] ((L.take p).map (fun v j=>v j+e v*L[p] j)) ((L.drop (p+1)).map (fun v j=>v j+e v*L[p] j)) [] (by simp;omega);have c:=h.elim e L[p] (L.take p++L.drop (p+1)) [L[p]] (by simp) (by simp;omega);simp only[iM,cH] at a b;rw[a,b,<-azM];simp only[List.singleton_append] at c;rw[c]
end
def dzB(n:Nat)(r:Nat->List Rat):List Vc:=(List.range n).map fun i=>cf (r i)
def dzR(n:Nat)(r:Nat->List Rat):(dzB n r).length=n:=by simp[dzB]
def dzL{r:Nat->List Rat}(hi:i<(dzB n r).length):(dzB n r)[i]=cf (r i):=by simp[dzB]
def dyT(r:Nat->List Rat)(p:Nat)(y:List Rat):Nat->List Rat:=fun i=>if i=p then y else r i
def dz8(r:Nat->List Rat)(p:Nat)(y:List Rat):dyT r p y p=y:=if_pos rfl
def dq2{r:Nat->List Rat}(h:i≠p):dyT r p y i=r i:=if_neg h
def dqO(r:Nat->List Rat)(y:List Rat):dzB n (dyT r p y)=(dzB n r).set p (cf y):=by
 refine cz0 (by rw[eM,dzR,dzR]) fun i a b=> ?_;rw[dzL,List.getElem_set];split
 ·rename_i e;subst e;rw[dz8]
 ·rename_i e;rw[dq2 (fun k=>e k.symm),dzL]
def dzG(r:Nat->List Rat)(p k:Nat):Nat->List Rat:=dyT (dyT r p (r k)) k (r p)
def dzH(n c:Nat)(g:Rat)(x y:List Rat):List Rat:=(List.range n).map fun j=>if j<c then cf x j else cf x j-g*cf y j
def ex1(n c:Nat)(g:Rat)(x y:List Rat):(dzH n c g x y).length=n:=by simp[dzH]
def ey8(n c:Nat)(g:Rat)(x y:List Rat)(j:Nat):cf (dzH n c g x y) j=if j<n then (if j<c then cf x j else cf x j-g*cf y j) else 0:=by
 unfold dzH;exact qA _ n j
def ex2(h:x.length=n):x=(List.range n).map (cf x):=by
 refine cz0 (by simp[h]) fun i a b=> ?_;rw[List.getElem_map,List.getElem_range,fZ a]
def ey9(h:x.length=n):dzH n c 0 x y=x:=by
 conv=>rhs;rw[ex2 h]
 unfold dzH;refine bxH fun j _=> ?_;split
 ·rfl
 ·grind
structure EchI(n:Nat)(D0:Rat)(K:Nat)(r:Nat->List Rat)(p c:Nat)(dq:Rat):Prop where
 len:∀i,i<n->(r i).length=n
 pc:p<=c
 rl:∀i,i<n->∀q∈r i,RL K q
 rd:RL K dq
 alt:(p<c∧dq=0∧D0=0)∨(p=c∧(∀i,i<n->∀j,j<c->cf (r i) j=if i=j then 1 else 0)∧D0=dq*dyV n (dzB n r))
def EchI.start{r:Nat->List Rat}(b:∀i,i<n->(r i).length=n)(c:∀i,i<n->∀q∈r i,RL K q)(a:1<=K):EchI n (dyV n (dzB n r)) K r 0 0 1:=
 ⟨b,aE,c,bU rY a,.inr ⟨rfl,fun _ _ j h=>by omega,(cz4 _).symm⟩⟩
def EchI.none{b:Rat}{r:Nat->List Rat}{g:Rat}(H:EchI n b K r p c g)(u:c<n)(h:∀i,p<=i->i<n->cf (r i) c=0){d:Nat}(f:K<=d):EchI n b d r p (c+1) 0:=by
 have w:=H.pc;refine⟨H.len,by omega,fun i a q s=>bU (H.rl i a q s) f,iG (aH (xR H.rd) f),.inl ⟨by omega,rfl,?_⟩⟩;rcases H.alt with ⟨-, -,k⟩|⟨e,t,l⟩
 ·exact k
 ·subst e;obtain⟨m,rfl⟩:∃m,n=m+1+p:=⟨n-1-p,by omega⟩
  rw[l,eyK (by rw[dzR];omega) (fun i a j o=>by rw[dzL];exact t i (by rw[dzR] at a;exact a) j o) (fun v hv=>by
   obtain⟨i,a,rfl⟩:=List.getElem_of_mem hv;rw[eX,dzR] at a;rw[List.getElem_drop,dzL];exact h (p+i) (by omega) (by omega)),gX]
def EchI.swap{l:Rat}{r:Nat->List Rat}{m:Rat}(H:EchI n l K r p c m)(v:p<k)(d:k<n):EchI n l K (dzG r p k) p c (-m):=by
 have q:∀i,i<n->dzG r p k i=r p∨dzG r p k i=r k∨dzG r p k i=r i:=fun i _=>by
  unfold dzG dyT;split
  ·exact .inl rfl
  ·split
   ·exact .inr (.inl rfl)
   ·exact .inr (.inr rfl)
 refine⟨fun i a=> ?_,H.pc,fun i a=> ?_,C7 H.rd,?_⟩
 ·rcases q i a with e|e|e<;>rw[e]
  ·exact H.len p (by omega)
  ·exact H.len k d
  ·exact H.len i a
 ·rcases q i a with e|e|e<;>rw[e]
  ·exact H.rl p (by omega)
  ·exact H.rl k d
  ·exact H.rl i a
 ·rcases H.alt with ⟨b,s,t⟩|⟨e,g,u⟩
  ·exact .inl ⟨b,by rw[s];rfl,t⟩
  ·subst e;refine .inr ⟨rfl,fun i a j f=> ?_,?_⟩
   ·unfold dzG dyT;split
    ·rename_i e;rw[g p (by omega) j f,if_neg (by omega),if_neg (by omega)]
    ·split
     ·rename_i e;rw[g k d j f,if_neg (by omega),if_neg (by omega)]
     ·exact g i a j f
   ·have o:=dzR n r;have b:=(bq4 n).set_swap o (p:=p) (k:=k) (by rw[o];exact d) v;rw[dzL,dzL] at b;unfold dzG;rw[dqO,dqO,b,u];grind
def EchI.step{t:Rat}{r:Nat->List Rat}(H:EchI n t K r p c u)(d:p<n)(S:c<n)(A:cf (r p) c≠0):
  EchI n t (4*K+1) (fun i=>if i=p then (r p).map (·/cf (r p) c) else dzH n c (cf (r i) c) (r i) ((r p).map (·/cf (r p) c))) (p+1) (c+1) (u*cf (r p) c):=by
 have T:=H.pc;have y:=xR H.rd;have g:∀i,i<n->∀j,RL K (cf (r i) j):=fun i a j=>lV (H.rl i a) (iG y) j;have F:=g p d c;have I:∀q∈(r p).map (·/cf (r p) c),RL (K+K) q:=fun q m=>by
  obtain⟨x,Q,rfl⟩:=List.mem_map.1 m;exact xS (H.rl p d x Q) F
 have o:∀j,cf ((r p).map (·/cf (r p) c)) j=cf (r p) j/cf (r p) c:=fun j=>mG (·/cf (r p) c) (by rw[bxV,azS]) (r p) j;refine⟨fun i a=> ?_,by omega,fun i a q m=> ?_,bU (o6 H.rd F) (by omega),?_⟩
 ·show(if i=p then _ else _:List Rat).length=n
  split
  ·rw[cH];exact H.len p d
  ·exact ex1 ..
 ·have f:q∈(if i=p then (r p).map (·/cf (r p) c) else dzH n c (cf (r i) c) (r i) ((r p).map (·/cf (r p) c))):=m;split at f
  ·exact bU (I q f) (by omega)
  ·unfold dzH at f;obtain⟨j,b,rfl⟩:=List.mem_map.1 f;split
   ·exact bU (g i a j) (by omega)
   ·exact bU (JM (g i a j) (o6 (g i a c) (lV I (iG (by omega)) j))) (by omega)
 ·rcases H.alt with ⟨y,M,N⟩|⟨e,E,O⟩
  ·exact .inl ⟨by omega,by rw[M,azS],N⟩
  ·subst e;have s:∀j,j<p->cf ((r p).map (·/cf (r p) p)) j=0:=fun j b=>by rw[o,E p d j b,if_neg (by omega),bxV,azS]
   have J:cf ((r p).map (·/cf (r p) p)) p=1:=by rw[o,bxV,Rat.mul_inv_cancel _ A]
   have R:∀j,n<=j->cf ((r p).map (·/cf (r p) p)) j=0:=fun j b=>bV (by rw[cH,H.len p d];exact b);have z:∀i,i<n->cf (dzH n p (cf (r i) p) (r i) ((r p).map (·/cf (r p) p)))=fun j=>cf (r i) j+ -(cf (r i) p)*cf ((r p).map (·/cf (r p) p)) j:=fun i a=>funext fun j=>by
    rw[ey8];by_cases b:j<n
    ·rw[if_pos b];by_cases l:j<p
     ·rw[if_pos l,s j l];grind
     ·rw[if_neg l];grind
    ·rw[if_neg b,R j (by omega),bV (by rw[H.len i a];omega)];grind
   refine .inr ⟨rfl,fun i a j b=> ?_,?_⟩
   ·show cf (if i=p then _ else _:List Rat) j=_
    split
    ·rename_i e;by_cases k:j=p
     ·rw[k,J,if_pos e]
     ·rw[s j (by omega),if_neg (by omega)]
    ·rename_i e;rw[z i a];show cf (r i) j+ -(cf (r i) p)*_=_
     by_cases k:j=p
     ·rw[k,J,if_neg e];grind
     ·rw[s j (by omega),E i a j (by omega)];grind
   ·have C:=dzR n r
    have w:=(bq4 n).set_mul C (p:=p) (by rw[C];exact d) (cf (r p) p) (cf ((r p).map (·/cf (r p) p))) (by
     rw[dzL];funext j;rw[o,bzB,gW A])
    rw[<-dqO] at w;have D:=dzR n (dyT r p ((r p).map (·/cf (r p) p)));have P:=dzR n (fun i=>if i=p then (r p).map (·/cf (r p) p) else dzH n p (cf (r i) p) (r i) ((r p).map (·/cf (r p) p)))
    have L:=(bq4 n).set_elim (fun v=> -(v p)) D P (p:=p) (by rw[D];exact d) (by rw[dzL,dzL,dz8,if_pos rfl]) (fun i a B=>by
     rw[dzL,dzL,dzL,dz8,dq2 B,if_neg B];exact z i (by omega))
    rw[L,O,w];grind
def EchI.congr{b:Rat}{r r':Nat->List Rat}{d:Rat}(H:EchI n b K r p c d)(e:∀i,i<n->r' i=r i):EchI n b K r' p c d:=by
 refine⟨fun i a=>by rw[e i a];exact H.len i a,H.pc,fun i a=>by rw[e i a];exact H.rl i a,H.rd,?_⟩;have f:dzB n r'=dzB n r:=bxH fun i a=>by rw[e i (List.mem_range.1 a)]
 rcases H.alt with h|⟨g,j,k⟩
 ·exact .inl h
 ·exact .inr ⟨g,fun i a=>by rw[e i a];exact j i a,by rw[f];exact k⟩
def dqD(r:Nat->List Rat)(p:Nat)(x y:List Rat):dyT (dyT r p x) p y=dyT r p y:=by
 funext i;unfold dyT;split<;>rfl
def dqB(r:Nat->List Rat)(p:Nat):dyT r p (r p)=r:=by
 funext i;unfold dyT;split
 ·rename_i e;rw[e]
 ·rfl
def dzI(F:Rat)(x:List Rat)(j:Nat):List Rat:=(x.take j).map (·/F)++x.drop j
def ex3(F:Rat)(x:List Rat)(j:Nat):(dzI F x j).length=x.length:=by simp[dzI];omega
def eyA(F:Rat)(x:List Rat):dzI F x 0=x:=by simp[dzI]
def eyB(h:x.length=n):dzI F x n=x.map (·/F):=by
 unfold dzI;rw[cZ (by omega),gO (by omega),fH]
def eyC(h:j<x.length):(dzI F x j)[j]? =some (cf x j):=by
 unfold dzI;rw[fK (by simp;omega),cH,bK,gF (by omega),dzC,T8,gQ,aR h,fZ h]
def eyD(h:j<x.length):(dzI F x j).set j (cf x j/F)=dzI F x (j+1):=by
 unfold dzI;have a:((x.take j).map (·/F)).length=j:=by rw[cH,bK];omega
 rw[bz2 _ _ (by omega),a,dzC,j5 h,bz3,kR,aR h,azB,azM,eK,List.map_singleton,fZ h];rfl
def dzA(n c:Nat)(g:Rat)(x y:List Rat)(j:Nat):List Rat:=(List.range n).map fun i=>if c<=i∧i<j then cf x i-g*cf y i else cf x i
def dqP(n c:Nat)(g:Rat)(x y:List Rat)(j:Nat):(dzA n c g x y j).length=n:=by simp[dzA]
def eyE{g:Rat}(h:x.length=n):dzA n c g x y c=x:=by
 conv=>rhs;rw[ex2 h]
 unfold dzA;refine bxH fun i _=>if_neg (by omega)
def eyF(n c:Nat)(g:Rat)(x y:List Rat):dzA n c g x y n=dzH n c g x y:=by
 unfold dzA dzH;refine bxH fun i a=> ?_;have:=List.mem_range.1 a;by_cases e:i<c
 ·rw[if_neg (by omega),if_pos e]
 ·rw[if_pos (by omega),if_neg e]
def eyG{g:Rat}(h:j<n):(dzA n c g x y j)[j]? =some (cf x j):=by
 unfold dzA;rw[iK,aqM h,bxU,if_neg (by omega)]
def eyH{g:Rat}(d:c<=j)(h:j<n):(dzA n c g x y j).set j (cf x j-g*cf y j)=dzA n c g x y (j+1):=by
 refine SP fun i=> ?_;rw[List.getElem?_set,dqP];unfold dzA;by_cases e:j=i
 ·subst e;rw[if_pos rfl,if_pos h,iK,aqM h,bxU,if_pos (by omega)]
 ·rw[if_neg e,iK,iK];by_cases b:i<n
  ·rw[aqM b,bxU,bxU];congr 1;by_cases a:c<=i∧i<j
   ·rw[if_pos a,if_pos (by omega)]
   ·rw[if_neg a,if_neg (by omega)]
  ·rw[fU (by simp;omega)];rfl
def dq3(n c p:Nat)(r:Nat->List Rat)(y:List Rat)(k:Nat):List Rat:=if k=p then y else dzH n c (cf (r k) c) (r k) y
def dyZ(n c p:Nat)(r:Nat->List Rat)(y:List Rat)(i k:Nat):List Rat:=if k<i then dq3 n c p r y k else dyT r p y k
def eyI(n c p:Nat)(r:Nat->List Rat)(y:List Rat):dyZ n c p r y 0=dyT r p y:=funext fun k=>if_neg (by omega)
def ex4(n c p:Nat)(r:Nat->List Rat)(y:List Rat)(i:Nat):dyZ n c p r y i i=dyT r p y i:=if_neg (by omega)
def ex5(n c p:Nat)(r:Nat->List Rat)(y:List Rat)(i:Nat):dyZ n c p r y i p=y:=by
 unfold dyZ dq3 dyT;split<;>simp
def ex6(n c p:Nat)(r:Nat->List Rat)(y:List Rat)(i:Nat):dyT (dyZ n c p r y i) i (dq3 n c p r y i)=dyZ n c p r y (i+1):=by
 funext k;unfold dyZ;by_cases e:k=i
 ·subst e;rw[dz8,if_pos (by omega)]
 ·rw[dq2 e];by_cases a:k<i
  ·rw[if_pos a,if_pos (by omega)]
  ·rw[if_neg a,if_neg (by omega)]
def ex7{r:Nat->List Rat}(a:(r i).length=n)(h:i=p∨cf (r i) c=0):dyZ n c p r y (i+1)=dyZ n c p r y i:=by
 rw[<-ex6];have e:dq3 n c p r y i=dyZ n c p r y i i:=by
  rw[ex4];unfold dq3 dyT;by_cases e:i=p
  ·rw[if_pos e,if_pos e]
  ·rw[if_neg e,if_neg e,h.resolve_left e,ey9 a]
 rw[e,dqB]
def ex8{r:Nat->List Rat}(d:∀k,k<n->(r k).length=n)(a:y.length=n)(b:k<n):(dyZ n c p r y i k).length=n:=by
 unfold dyZ dq3 dyT;split
 ·split
  ·exact a
  ·exact ex1 ..
 ·split
  ·exact a
  ·exact d k b
def EchI.last{a:Rat}{r:Nat->List Rat}{b:Rat}(H:EchI n a K r p c b)(s:c<=n)(h:¬(c<n∧p<n)):(if p<n then 0 else b)=a:=by
 have t:=H.pc;have l:c=n:=by omega
 subst l;rcases H.alt with ⟨f,q,g⟩|⟨e,o,k⟩
 ·rw[if_pos f,g]
 ·subst e;rw[if_neg (by omega),k,cyJ p (dzB p r) (dzR p r).symm (fun i d j m=>by rw[dzL];exact o i (by rw[dzR] at d;exact d) j m),aqS]
def Mg.grown32{p:Option Nat}(h:Mg w v n)(m:w.grownBy w' p)(C:∀g,p=some g->∀x,w.cell? ⟨g,0,none⟩≠some (.int .u32 x)):Mg w' v n:=by
 obtain⟨j,⟨A,c,hv,u,y,h⟩,q,s⟩:=h;refine⟨j,⟨A,c,hv,u,y,?_⟩,q,s⟩;rcases h with h|⟨b,e,o,l⟩
 ·exact .inl h
 ·by_cases k:j=[]
  ·exact .inl k
  ·refine .inr ⟨b,e,aZ o m.size,fun i d z=> ?_⟩;have t:=l 0 (j[0]'(List.length_pos_iff.2 k)) (aR (List.length_pos_iff.2 k));exact(World.cell?_of_block (a:=⟨b,i,none⟩) (m.block b o (fun e=>C b e.symm _ t))).trans (l i d z)
def NQ.grown{c:Option Nat}(h:NQ w v q)(a:w.grownBy w' c)(b:∀g,c=some g->∀x,w.cell? ⟨g,0,none⟩≠some (.int .u32 x)):NQ w' v q:=by
 obtain⟨s,u,l,m,e,⟨u1,d,j⟩,⟨u2,i,k⟩⟩:=h;exact⟨s,u,l,m,e,⟨u1,d,j.grown32 a b⟩,⟨u2,i,k.grown32 a b⟩⟩
def OwnQ.grown{k:List Rat}(h:OwnQ w b k)(j:w.grownBy w' d)(z:∀g,d=some g->∀x,w.cell? ⟨g,0,none⟩≠some (.int .u32 x))(u:d≠some b):OwnQ w' b k:=by
 obtain⟨E,a,y,v⟩:=h;refine⟨E,⟨(j.block b a.lt (fun e=>u e.symm)).trans a.1,a.2⟩,y,fun i q C=> ?_⟩;obtain⟨s,A,l,c,F,m,D,o,p,t⟩:=v i q C;exact⟨s,A,l,c,F,m,D,o,p,t.grown j z⟩
def OwnQ.mut{c:List Rat}(h:OwnQ w b c)(k:KM w W)(d:∀{g:Nat} {cs:List Value} {t:TypeId},Bx w g cs t->e≠g->Bx W g cs t)(i:e≠b):OwnQ W b c:=by
 obtain⟨m,a,l,j⟩:=h;exact⟨m,⟨d a.1 i,a.2⟩,l,j.ke k⟩
def dz7(n:Nat)(f cp:Nat->Nat)(r:Nat->List Rat):List Value:=(List.range n).map fun i=> .slice (some ⟨f i,0,none⟩) (r i).length (cp i)
def dz9(n:Nat)(f cp:Nat->Nat)(r:Nat->List Rat):(dz7 n f cp r).length=n:=by simp[dz7]
def dqA{f cp:Nat->Nat}{r:Nat->List Rat}(h:i<n):(dz7 n f cp r)[i]? =some (.slice (some ⟨f i,0,none⟩) (r i).length (cp i)):=by simp[dz7,h]
structure MatG(w:World)(B U g n:Nat)(f cp:Nat->Nat)(r:Nat->List Rat):Prop where
 gB:B<=g
 gU:g<U
 out:∃sp,Bx w g (dz7 n f cp r++sp) 50
 row:∀i,i<n->B<=f i∧f i<U∧(r i).length<=cp i∧OwnQ w (f i) (r i)
 inj:∀i j,i<n->j<n->f i=f j->i=j
section
variable {w w' W:World}{B U g n:Nat}{f cp:Nat->Nat}{r:Nat->List Rat}
def MatG.ne(h:MatG w B U g n f cp r)(hi:i<n):g≠f i:=fun e=>by
 obtain⟨sp,c⟩:=h.out;obtain⟨-, -, -,rows,b, -⟩:=h.row i hi;rw[<-e] at b;have d:w.heap[g]? =some (.cells rows.flatten.toArray 58 (0,0)):=b.1;have a:w.heap[g]? =some (.cells (dz7 n f cp r++sp).toArray 50 (0,0)):=c;rw[d] at a;injection a with a;injection a with _ a;exact absurd a (by decide)
def MatG.lt(h:MatG w B U g n f cp r):g<w.1.size∧∀i,i<n->f i<w.1.size:=⟨h.out.choose_spec.lt,fun i hi=>(h.row i hi).2.2.2.lt⟩
def MatG.be(h:MatG w B U g n f cp r)(b:Below w.1.size w w'):MatG w' B U g n f cp r:=
 ⟨h.gB,h.gU,h.out.imp fun _ h=>h.be b,fun i a=>⟨(h.row i a).1,(h.row i a).2.1,(h.row i a).2.2.1,(h.row i a).2.2.2.be b⟩,h.inj⟩
def MatG.up{a b:World}[u:Up a b](h:MatG a B U g n f cp r):MatG b B U g n f cp r:=h.be u.out
def MatG.mut(h:MatG w B U g n f cp r)(l:KM w W)(a:∀{g:Nat} {cs:List Value} {t:TypeId},Bx w g cs t->e≠g->Bx W g cs t)(m:e<B∨U<=e):MatG W B U g n f cp r:=by
 have:=h.gB;have:=h.gU
 exact⟨h.gB,h.gU,h.out.imp fun _ h=>a h (by omega),fun i k=>by
  obtain⟨b,c,d,j⟩:=h.row i k;exact⟨b,c,d,j.mut l a (by omega)⟩,h.inj⟩
def MatG.grown(h:MatG w B U g n f cp r)(c:w.grownBy w' a)(o:∀g,a=some g->∀x,w.cell? ⟨g,0,none⟩≠some (.int .u32 x))(b:∀g,a=some g->U<=g):MatG w' B U g n f cp r:=by
 have:=h.gU;refine⟨h.gB,h.gU,h.out.imp fun _ h=>(c.block g (Bx.lt h) (fun e=> ?_)).trans h,fun i m=> ?_,h.inj⟩
 ·have:=b g e.symm;omega
 ·obtain⟨d,j,k,l⟩:=h.row i m;exact⟨d,j,k,l.grown c o (fun e=>by have:=b _ e;omega)⟩
def MatG.cell(h:MatG w B U g n f cp r)(hi:i<n):w.cell? ⟨g,i,none⟩=some (.slice (some ⟨f i,0,none⟩) (r i).length (cp i)):=by
 obtain⟨b,a⟩:=h.out;exact a.cell i (by rw[gA (by rw[dz9];exact hi)];exact dqA hi)
def MatG.free(h:MatG w B U g n f cp r)(j:Nat):w.frozen? ⟨g,j,none⟩=false:=h.out.choose_spec.free j
def MatG.at_(h:MatG w B U g n f cp r)(hi:i<n)(e:(r i)[j]? =some q):∃s B m d s' a c b,R4 w (f i) (j*4) (.bool s) (.slice B m d) (.bool s') (.slice a c b)∧NQ w (.agg #[.bool s,.slice B m d,.bool s',.slice a c b]) q:=(h.row i hi).2.2.2.at_ e
def MatG.stored(h:MatG w B U g n f cp r)(hi:i<n)(y:j<(r i).length){s s':Bool}{b:Option Addr}{t c':Nat}(hn:NQ w (.agg #[.bool s,.slice A l c,.bool s',.slice b t c']) q):
  let W:=(((w.setCell ⟨f i,j*4,none⟩ (.bool s)).setCell ⟨f i,j*4+1,none⟩ (.slice A l c)).setCell ⟨f i,j*4+2,none⟩ (.bool s')).setCell ⟨f i,j*4+3,none⟩ (.slice b t c')
  MatG W B U g n f cp (dyT r i ((r i).set j q))∧r6 (f i) w W:=by
 obtain⟨v,a⟩:=(h.row i hi).2.2.2.stored y hn;refine⟨⟨h.gB,h.gU,?_,fun k d=> ?_,h.inj⟩,a⟩
 ·obtain⟨C,x⟩:=h.out;refine⟨C,(a.2.2.1 g (h.ne hi)).trans ?_⟩;have e:dz7 n f cp (dyT r i ((r i).set j q))=dz7 n f cp r:=by
   unfold dz7;refine bxH fun k _=> ?_;unfold dyT;split
   ·rename_i e;rw[e,eM]
   ·rfl
  rw[e];exact x
 ·obtain⟨m,o,p,z⟩:=h.row k d;by_cases e:k=i
  ·subst e;rw[dz8,eM];exact⟨m,o,p,v⟩
  ·rw[dq2 e];exact⟨m,o,p,z.step a (fun u=>e (h.inj k i d hi u))⟩
def dq1(f:Nat->Nat)(p k:Nat):Nat->Nat:=fun i=>if i=k then f p else if i=p then f k else f i
def MatG.swapped(h:MatG w B U g n f cp r)(c:p<n)(a:k<n)(K:p<k):
  let W:=(w.setCell ⟨g,k,none⟩ (.slice (some ⟨f p,0,none⟩) (r p).length (cp p))).setCell ⟨g,p,none⟩ (.slice (some ⟨f k,0,none⟩) (r k).length (cp k))
  MatG W B U g n (dq1 f p k) (dq1 cp p k) (dzG r p k)∧r6 g w W:=by
 obtain⟨s,D⟩:=h.out;have t:=h.cell a;have C:=h.cell c;have z:=D.set k (.slice (some ⟨f p,0,none⟩) (r p).length (cp p));have A:=z.set p (.slice (some ⟨f k,0,none⟩) (r k).length (cp k));have u:(w.setCell ⟨g,k,none⟩ (.slice (some ⟨f p,0,none⟩) (r p).length (cp p))).cell? ⟨g,p,none⟩=some (.slice (some ⟨f p,0,none⟩) (r p).length (cp p)):=by
  rw[World.cell?_setCell_other _ _ _ _ (by rintro e;injection e with _ e;omega)];exact C
 have E:=(KM.put t (NoInt.slice _ _ _) (.slice (some ⟨f p,0,none⟩) (r p).length (cp p))).trans (KM.put u (NoInt.slice _ _ _) (.slice (some ⟨f k,0,none⟩) (r k).length (cp k)));have x:r6 g w _:=⟨E,(Keep.put t (NoInt.slice _ _ _) _).trans (Keep.put u (NoInt.slice _ _ _) _),fun b v=>by rw[Below.heap_setCell _ ⟨g,p,none⟩ _ b v,Below.heap_setCell _ ⟨g,k,none⟩ _ b v],by simp,rfl,rfl,rfl⟩;refine⟨⟨h.gB,h.gU,⟨s,?_⟩,fun i l=> ?_,fun i j l d e=> ?_⟩,x⟩
 ·have e:((dz7 n f cp r++s).set k (.slice (some ⟨f p,0,none⟩) (r p).length (cp p))).set p (.slice (some ⟨f k,0,none⟩) (r k).length (cp k))=dz7 n (dq1 f p k) (dq1 cp p k) (dzG r p k)++s:=by
   refine SP fun i=> ?_;rw[List.getElem?_set,eM,List.getElem?_set,bG,dz9];by_cases m:p=i
   ·subst m;rw[if_pos rfl,if_pos (by omega),gA (by rw[dz9];omega),dqA c];have F:¬p=k:=by omega
    simp only[dq1,dzG,dyT,if_neg F,if_true]
   ·rw[if_neg m];by_cases o:k=i
    ·subst o;rw[if_pos rfl,if_pos (by omega),gA (by rw[dz9];omega),dqA a];simp only[dq1,dzG,dyT,if_true]
    ·rw[if_neg o];by_cases y:i<n
     ·rw[gA (by rw[dz9];omega),gA (by rw[dz9];omega),dqA y,dqA y];simp only[dq1,dzG,dyT];rw[if_neg (fun e=>o e.symm),if_neg (fun e=>m e.symm),if_neg (fun e=>o e.symm),if_neg (fun e=>m e.symm),if_neg (fun e=>o e.symm),if_neg (fun e=>m e.symm)]
     ·rw[fK (by rw[dz9];omega),fK (by rw[dz9];omega),dz9,dz9]
  rw[<-e];exact A
 ·have q:∀j,j<n->B<=f j∧f j<U∧(r j).length<=cp j∧OwnQ _ (f j) (r j):=fun j d=>by
   obtain⟨G,H,I,J⟩:=h.row j d;exact⟨G,H,I,J.step x (fun e=>h.ne d e.symm)⟩
  simp only[dq1,dzG,dyT];split
  ·exact q p c
  ·split
   ·exact q k a
   ·exact q i l
 ·simp only[dq1] at e;split at e
  ·split at e
   ·omega
   ·split at e
    ·have:=h.inj p k c a e;omega
    ·have:=h.inj p j c d e;omega
  ·split at e
   ·split at e
    ·have:=h.inj k p a c e;omega
    ·split at e
     ·omega
     ·have:=h.inj k j a d e;omega
   ·split at e
    ·have:=h.inj i p l c e;omega
    ·split at e
     ·have:=h.inj i k l a e;omega
     ·exact h.inj i j l d e
end
def dqZ:(Tryz.prog.info? 3).map (fun i=>(i.zero,i.size,i.bytes))=some (some (.int .i64 0),1,8):=by kernel_rfl
def PivI(w:World)(b:Nat)(v:Value)(n:Nat):Prop:=(v= .slice none 0 0∧n=0)∨∃xs y,w.ownsRow b 3 1 v n xs∧xs[0]? =some (.int .i64 y)
def PivI.form(h:PivI w b v n):∃A c,v= .slice A n c∧n<=c:=by
 rcases h with ⟨rfl,rfl⟩|⟨j,y,h,i⟩
 ·exact⟨none,0,rfl,aE⟩
 ·rcases h.2 with ⟨rfl,rfl⟩|⟨g,d,f,rfl, -, -,e, -⟩
  ·exact⟨none,0,rfl,aE⟩
  ·exact⟨_,d,rfl,e⟩
def PivI.own(h:PivI w c v n):∀g,v.ownBlock=some g->c<=g∧g<w.1.size∧∀x,w.cell? ⟨g,0,none⟩≠some (.int .u32 x):=fun g e=>by
 rcases h with ⟨rfl,rfl⟩|⟨xs,y,h,b⟩
 ·simp[Value.ownBlock] at e
 ·rcases h.2 with ⟨rfl,rfl⟩|⟨i,l,cur,rfl,j,d,m, -,p,k⟩
  ·simp[Value.ownBlock] at e
  ·simp[Value.ownBlock] at e;subst e;refine⟨j,(Array.getElem?_eq_some_iff.1 d).1,fun x f=> ?_⟩;rw[cell_of_row w i 0 cur _ (0,0) d,<-Array.getElem?_toList] at f;rw[<-k,fC] at b;split at b
   ·rw[f] at b;simp at b
   ·cases b
def PivI.kept(h:PivI w b v n)(j:∀g,v.ownBlock=some g->w'.heap[g]? =w.heap[g]?):PivI w' b v n:=by
 rcases h with h|⟨l,y,h,k⟩
 ·exact .inl h
 ·refine .inr ⟨l,y,⟨h.1,?_⟩,k⟩;rcases h.2 with h|⟨c,d,e,rfl,f,i,h⟩
  ·exact .inl h
  ·exact .inr ⟨c,d,e,rfl,f,(j c rfl).trans i,h⟩
def PivI.be(h:PivI w b v n)(c:Below w.1.size w w'):PivI w' b v n:=h.kept fun g e=>c.block g (h.own g e).2.1
def PivI.up{a b:World}[u:Up a b](h:PivI a c v n):PivI b c v n:=h.be u.out
def PivI.step(h:PivI w c v n)(d:r6 g w W)(f:g<c):PivI W c v n:=h.kept fun b e=>d.2.2.1 b (by have:=(h.own b e).1;omega)
section
variable {w:World}{ops:Array Oper}{rest:List Oper}{o:Oper}{a:Act}{Q:Exit->Act->World->Prop}
def ey6(l:o.guard=none){s x:Operand}(m:o.op= .call { callee:= .builtin .append,args:= #[s,x],argTypes:= #[120,120] })
  {d:Nat}(p:a.eval s=v)(C:PivI w d v n){t:TypeId}{y:Int}(r:a.eval x= .slice (some ⟨g,0,none⟩) 1 c)(B:Bx w g [.int .i64 y] t)(hn:n<=1073741824)(k:d<=w.1.size)
  (h:∀b w',PivI w' d b (n+1)->w.grownBy w' v.ownBlock->wpList prog ops Q rest (a.put o.dst b) w'):wpList prog ops Q (o :: rest) a w:=by
 have q:Src w (some ⟨g,0,none⟩) [.int .i64 y]:= .inr ⟨g,0,rfl,fun i u e=>by rw[bA];exact B.cell i e⟩;rcases C with ⟨rfl,rfl⟩|⟨E,z,D,A⟩
 ·refine gM l m 3 _ 1 8 underlying120 dqZ rfl (by decide) d _ 0 [] p (World.ownsRow_nil _ _ _ _) [.int .i64 y] r rfl q (fun u e=>by rw[List.mem_singleton.1 e];rfl) (by omega) (by omega) k ?_;intro b w' f j _;exact h b w' (.inr ⟨_,y,f,rfl⟩) j
 ·refine gM l m 3 _ 1 8 underlying120 dqZ rfl (by decide) d v n E p D [.int .i64 y] r rfl q (fun u e=>by rw[List.mem_singleton.1 e];rfl) (by omega) (by omega) k ?_;intro b w' f j _;refine h b w' (.inr ⟨_,z,f,?_⟩) j;rw[gA (List.getElem?_eq_some_iff.1 A).1];exact A
end
def OwnQ.grownP{e:TypeId}{q:List Value}{l:List Rat}(h:OwnQ w b l)(g:PRow w B e v q)(m:e≠58)(f:w.grownBy w' v.ownBlock):OwnQ w' b l:=by
 obtain⟨i,d,p,n⟩:=h;refine⟨i,⟨(f.block b d.lt (fun k=> ?_)).trans d.1,d.2⟩,p,n.ke (g.km f)⟩;obtain⟨r,j⟩:=g.typ k.symm;have c:w.heap[b]? =some (.cells i.flatten.toArray 58 (0,0)):=d.1;rw[j] at c;injection c with c;injection c with _ c;exact m c
structure MatP(w:World)(B j:Nat)(v:Value)(f cp:Nat->Nat)(r:Nat->List Rat):Prop where
 out:PRow w B 50 v (dz7 j f cp r)
 row:∀i,i<j->B<=f i∧(r i).length<=cp i∧OwnQ w (f i) (r i)
 inj:∀i k,i<j->k<j->f i=f k->i=k
def QsAt.cap{b:List Rat}(h:QsAt w (.slice A l c) b):b.length<=c:=by
 obtain⟨_,_,e,d,_⟩:=h;injection e with _ _ e;omega
def ex0{f d:Nat->Nat}{r:Nat->List Rat}:dz7 (j+1) (fun i=>if i=j then b else f i) (fun i=>if i=j then c else d i) r=dz7 j f d r++[.slice (some ⟨b,0,none⟩) (r j).length c]:=by
 unfold dz7;simp only[List.range_succ,azM,fM,bxI,if_true];congr 1;refine bxH fun i e=> ?_;have:=List.mem_range.1 e;rw[if_neg (by omega),if_neg (by omega)]
def MatP.be{f c:Nat->Nat}{r:Nat->List Rat}(h:MatP w B j v f c r)(d:Below w.1.size w w'):MatP w' B j v f c r:=
 ⟨h.out.be d,fun i b=>⟨(h.row i b).1,(h.row i b).2.1,(h.row i b).2.2.be d⟩,h.inj⟩
def MatP.push{f d:Nat->Nat}{r:Nat->List Rat}(h:MatP w B j v f d r)(t:OwnQ w b (r j))(u:(r j).length<=c)(s:B<=b)(l:∀i,i<j->f i≠b)(g:w.grownBy w' v.ownBlock)(y:PRow w' B 50 m (dz7 j f d r++[.slice (some ⟨b,0,none⟩) (r j).length c])):
  MatP w' B (j+1) m (fun i=>if i=j then b else f i) (fun i=>if i=j then c else d i) r:=by
 refine⟨by rw[ex0];exact y,fun i x=> ?_,fun i k x z e=> ?_⟩
 ·by_cases e:i=j
  ·subst e;simp only[if_true];exact⟨s,u,t.grownP h.out (by decide) g⟩
  ·simp only[if_neg e];obtain⟨n,p,q⟩:=h.row i (by omega);exact⟨n,p,q.grownP h.out (by decide) g⟩
 ·replace e:(if i=j then b else f i)=(if k=j then b else f k):=e;split at e
  ·split at e
   ·omega
   ·exact absurd e.symm (l k (by omega))
  ·split at e
   ·exact absurd e (l i (by omega))
   ·exact h.inj i k (by omega) (by omega) e
def MatP.done{f d:Nat->Nat}{r:Nat->List Rat}(h:MatP w B n v f d r)(hn:1<=n):∃g c,v= .slice (some ⟨g,0,none⟩) n c∧n<=c∧MatG w B w.1.size g n f d r:=by
 rcases h.out with ⟨-,p⟩|⟨g,l,m,rfl,q,e,j,s,t,k, -⟩
 ·have:=dz9 n f d r;rw[p] at this;simp at this;omega
 ·rw[dz9] at j k;refine⟨g,l,by rw[dz9],j,q,(Array.getElem?_eq_some_iff.1 e).1,⟨m.toList.drop n,?_⟩,fun i b=>⟨(h.row i b).1,(h.row i b).2.2.lt,(h.row i b).2.1,(h.row i b).2.2⟩,h.inj⟩;unfold Bx;rw[e,<-k,List.take_append_drop]
def dqC(w:World)(n:Nat)(r:Nat->List Rat)(e:Ending)(w':World):Prop:=∃g c f b,e= .returned (.slice (some ⟨g,0,none⟩) n c)∧n<=c∧MatG w' w.1.size w'.1.size g n f b r∧Below w.1.size w w'
def ey7(B U g n c:Nat)(f s:Nat->Nat)(r:Nat->List Rat)(w:World)(H:MatG w B U g n f s r)(hc:n<=c)(hn:1<=n)(ap:n<=1000)(hl:∀i,i<n->(r i).length<=1000)(ae:∀i,i<n->r i≠[]):
  Calls prog 139 #[.slice (some ⟨g,0,none⟩) n c] w (dqC w n r):=by
 go_enter func139,ntmps139;go_wp2_with fail;go_loopg [3,4] n (fun k v i wr=>∃j f s,Hid (j+k=n)∧i= .int .i64 (j:Nat)∧MatP wr w.1.size j v f s r∧Below w.1.size w wr)
 case atStart=>exact⟨0,fun _=>0,fun _=>0,by unfold Hid;omega,rfl,⟨PRow.nil _ _ _,(fun i h=>by omega),(fun i k h=>by omega)⟩,aG _ _⟩
 case round=>
  obtain⟨j,V,T,u,rfl,l,d⟩:=hrel;generalize wr=wy at *;have al:(0:Int)<=(j:Int):=by omega
  cases gk with
  |zero=>
   have hj:j=n:=u.out;subst hj;obtain⟨X,S,rfl,Y,O⟩:=l.done hn;go_wp2;go_ret;exact⟨X,S,V,T,rfl,Y,O,d⟩
  |succ k=>
   obtain⟨Av,cv,rfl,ac⟩:=l.out.form;rw[dz9] at ac;have m:j<n:=by have:=u.out;omega
   have am:(j:Int)<(n:Int):=by omega
   have z:=H.be d;have ab:=fun o:Obj=>(z.be ((aG _ _).alloc aE o)).cell m;have L:=(z.row j m).2.2.2.nums (s j) (z.row j m).2.2.1;have ao:=H.lt.1;have ag:=hl j m;have N:=ae j m;have K:∀W v,QsAt W v (r j)->v≠ .slice none 0 0:=fun W v h e=>by
    obtain⟨A,c,G,_⟩:=h.form;rw[e] at G;injection G with _ e2;exact N (bX e2.symm)
   obtain⟨x,F⟩:∃x,r j=x:=⟨_,rfl⟩;have y:=aB F;rw[F] at L ag ab K;clear F N;have af:=fun i E=>(l.row i E).2.2.lt;have aj:=d.size
   go_wp2_with (first
    |(at_builtin;refine yT rfl rfl rfl rfl L (by omega) ?_;intro v5 p M ah I;obtain⟨t,q,rfl,ad,C⟩:=ah.resolve_left (K _ _ M);have Z:=M.cap;have P:=Bx.new p [.slice (some ⟨t,0,none⟩) x.length q] 50;have D:Below p.1.size p (p.alloc (.cells #[.slice (some ⟨t,0,none⟩) x.length q] 50)):=(aG _ _).alloc aE _;have R:=P.cell 0 rfl;replace l:=(l.be I).be D;replace C:=C.be D;replace d:=(aC d I);replace d:=aC d D;have ak:=d.size)
    |(at_builtin;refine K4 rfl rfl 50 24 underlying118 ML w.1.size _ _ rfl l.out p.1.size (.slice (some ⟨t,0,none⟩) x.length q) rfl R ⟨_,_,_,rfl⟩ (by rw[dz9];omega) (by rw[dz9];unfold maxLen;omega) ak ?_;intro v8 w8 ai an J))
   have zb:=K5 d J l.out aE;have zp:=l.push (b:=t) (c:=q) (by rw[y.out];exact C) (by rw[y.out];exact Z) (aH aj ad) (fun i E=>by have:=af i E;omega) J (by rw[y.out];exact ai);go_wp2;go_roundg k
   case rel=>exact⟨j+1,_,_,by have:=u.out;unfold Hid;omega,by go_num,zp,zb⟩
   case measure=>omega
def QVx(w:World)(g:Nat)(q:Rat):Prop:=∃s A k c s' a b c',Bx w g [.bool s,.slice A k c,.bool s',.slice a b c'] 58∧NQ w (.agg #[.bool s,.slice A k c,.bool s',.slice a b c']) q
def QVx.be(h:QVx w g q)(a:Below w.1.size w w'):QVx w' g q:=by
 obtain⟨s,A,k,c,j,b,i,d,e,f⟩:=h;exact⟨s,A,k,c,j,b,i,d,e.be a,f.be a⟩
def QVx.up{a b:World}[u:Up a b](h:QVx a g q):QVx b g q:=h.be u.out
def QVx.step(h:QVx w g q)(a:r6 e w W)(j:g≠e):QVx W g q:=by
 obtain⟨s,A,k,c,m,b,l,d,f,i⟩:=h;exact⟨s,A,k,c,m,b,l,d,(a.2.2.1 g j).trans f,i.ke a.1⟩
def QVx.mut(h:QVx w g q)(j:KM w W)(d:∀{g:Nat} {cs:List Value} {t:TypeId},Bx w g cs t->e≠g->Bx W g cs t)(l:e≠g):QVx W g q:=by
 obtain⟨s,A,k,c,n,a,m,b,f,i⟩:=h;exact⟨s,A,k,c,n,a,m,b,d f l,i.ke j⟩
def QVx.grown(h:QVx w g q)(d:w.grownBy w' a)(m:∀g,a=some g->∀x,w.cell? ⟨g,0,none⟩≠some (.int .u32 x))(l:a≠some g):QVx w' g q:=by
 obtain⟨s,A,k,c,o,f,n,i,b,j⟩:=h;exact⟨s,A,k,c,o,f,n,i,(d.block g b.lt (fun e=>l e.symm)).trans b,j.grown d m⟩
def QVx.lt(h:QVx w g q):g<w.1.size:=by
 obtain⟨s,A,k,c,i,b,f,d,a,e⟩:=h;exact a.lt
def PivI.mut{a:Nat}(h:PivI w a v n)(f:∀{g:Nat} {cs:List Value} {t:TypeId},Bx w g cs t->e≠g->Bx W g cs t)(o:e<a):PivI W a v n:=by
 rcases h with h|⟨m,y,h,l⟩
 ·exact .inl h
 ·refine .inr ⟨m,y,⟨h.1,?_⟩,l⟩;rcases h.2 with h|⟨c,d,b,rfl,j,k,h⟩
  ·exact .inl h
  ·refine .inr ⟨c,d,b,rfl,j,?_,h⟩;have i:Bx w c b.toList 3:=k;exact f i (by omega)
def kk(K:Nat):Nat->Nat
 |0=>K
 |c+1=>4*kk K c+1
def dq9(K:Nat)(h:c<=n):kk K c<=kk K n:=by
 induction n with
 |zero=>rw[Nat.le_zero.1 h];exact aE
 |succ n a=>
  by_cases e:c=n+1
  ·rw[e];exact aE
  ·have:=a (by omega);show kk K c<=4*kk K n+1
   omega
def dz2{a b:World}[u:Up a b](h:a.cell? ⟨g,i,none⟩=some v):b.cell? ⟨g,i,none⟩=some v:=(u.out.cell (block_lt_of_cell h)).trans h
def dzQ{d f:Nat}{j k l:Value}{x:Option Value}(a:e≠g)(h:w.cell? ⟨g,i,none⟩=x):((((w.setCell ⟨e,b,none⟩ j).setCell ⟨e,c,none⟩ k).setCell ⟨e,d,none⟩ l).setCell ⟨e,f,none⟩ m).cell? ⟨g,i,none⟩=x:=
 (aL _ _ _ _ _ _ a).trans ((aL _ _ _ _ _ _ a).trans ((aL _ _ _ _ _ _ a).trans ((aL _ _ _ _ _ _ a).trans h)))
def dqX{o:Nat}{n p q b c d:Value}(a:e≠g)(h:R4 w g o b c d f):R4 ((((w.setCell ⟨e,i,none⟩ m).setCell ⟨e,j,none⟩ n).setCell ⟨e,k,none⟩ p).setCell ⟨e,l,none⟩ q) g o b c d f:=
 ⟨dzQ a h.1,dzQ a h.2.1,dzQ a h.2.2.1,dzQ a h.2.2.2⟩
def dqN{n o p b c d:Value}(a:e≠g)(h:C4 w g b c d f):C4 ((((w.setCell ⟨e,i,none⟩ m).setCell ⟨e,j,none⟩ n).setCell ⟨e,k,none⟩ o).setCell ⟨e,l,none⟩ p) g b c d f:=
 ⟨dzQ a h.1,dzQ a h.2.1,dzQ a h.2.2.1,dzQ a h.2.2.2⟩
def ey4{a:World}(h:Below B a w)(b:w.grownBy w' d)(i:∀g,d=some g->B<=g)(f:B<=a.1.size):Below B a w':=
 ⟨b.os.trans h.os,b.tape.trans h.tape,b.output.trans h.output,aH h.size b.size,fun k c=>(b.block k (aZ c (aH f h.size)) (fun e=>by have:=i k e.symm;omega)).trans (h.block k c)⟩
def dqY(w:World)(D:Rat)(L:Nat)(e:Ending)(w':World):Prop:=∃b c a,e= .returned (.tuple #[b,c,a])∧NQ w' a D∧RL L D∧Below w.1.size w w'
def ey5(B0 U0 g0 n c0:Nat)(f0 b2:Nat->Nat)(r0:Nat->List Rat)(w:World)(hM:MatG w B0 U0 g0 n f0 b2 r0)(dr:n<=c0)(hn:1<=n)(em:n<=100)(hl:∀i,i<n->(r0 i).length=n)(K:Nat)(t:∀i,i<n->∀q∈r0 i,RL K q)(h1:1<=K)(ea:kk K n<=100000000000):
  Calls prog 76 #[.slice (some ⟨g0,0,none⟩) n c0,.int .i64 n] w (dqY w (dyV n (dzB n r0)) (kk K n)):=by
 have bm:=EchI.start hl t h1;obtain⟨D0,b5⟩:∃D0,dyV n (dzB n r0)=D0:=⟨_,rfl⟩;rw[b5] at bm⊢;have br:=fun W h=>ey7 B0 U0 g0 n c0 f0 b2 r0 W h dr hn (by omega) (fun i hi=>by rw[hl i hi];omega) (fun i hi e=>by have:=hl i hi;rw[e] at this;simp at this;omega);unfold dqC at br;have bu:=fun W=>r7 1 W (by decide);unfold eS at bu;rw[show(((1:Nat):Int))=1 from rfl,show(((1:Nat):Rat))=1 from rfl] at bu;obtain⟨W,eW,m,R⟩:=bI w [.bool false,.slice none 0 0,.bool false,.slice none 0 0] 58;have HM:=hM.be m;have dl:=R.lt;clear b5 hl t hM;go_enter func76,ntmps76;go_wp2_with fail;(try rw[eW]);clear eW;refine(br _ HM).mono ?_;rintro e1 w1 ⟨g,c1,f,I,rfl,ee,l,a9⟩;have G:Hid (EchI n D0 (kk K 0) r0 0 0 1):=bm;clear HM br bm;replace R:=R.be a9;replace m:=aC m a9;go_wp2_with fail;refine(bu _).mono ?_;rintro e2 w2 ⟨v2,rfl,h2,a1⟩;obtain⟨s2,A2,k2,c2,s3,A3,k3,c3,rfl⟩:=h2.form;replace R:=R.be a1;replace m:=aC m a1;obtain⟨w3,e3,a2,Dt⟩:=bI w2 [.bool s2,.slice A2 k2 c2,.bool s3,.slice A3 k3 c3] 58;have a0:=(l.be a1).be a2;replace R:=R.be a2;have bk:QVx w3 w2.1.size 1:=⟨_,_,_,_,_,_,_,_,Dt,h2.be a2⟩;replace m:=aC m a2;have hU:w1.1.size<=w2.1.size:=a1.size;have dv:w.1.size<w2.1.size:=by have:=a9.size;omega
 have ce:=Dt.lt;go_wp2_with fail;have eb:w.1.size<g:=by have:=l.gB;omega
 obtain⟨d,hd⟩:∃d,w2.1.size=d:=⟨_,rfl⟩;rw[hd] at bk hU ce dv Dt⊢;obtain⟨U,b8⟩:∃U,w1.1.size=U:=⟨_,rfl⟩;rw[b8] at a0 hU;obtain⟨B,hB⟩:∃B,W.1.size=B:=⟨_,rfl⟩;rw[hB] at a0 dl;clear Dt l a9 a1 a2 h2 hd b8 hB e3;go_loopg [8,10] n (fun k pv i wr=>∃(c p:Nat) (f I:Nat->Nat) (r:Nat->List Rat) (M:Rat),Hid (c+k=n)∧i= .int .i64 (c:Nat)∧PivI wr (d+1) pv p∧MatG wr B U g n f I r∧QVx wr d M∧Bx wr w.1.size [.bool false,.slice none 0 0,.bool false,.slice none 0 0] 58∧Hid (EchI n D0 (kk K c) r p c M)∧Below w.1.size w wr)
 case atStart=>exact⟨0,0,f,I,r0,1,by unfold Hid;omega,rfl,.inl ⟨rfl,rfl⟩,a0,bk,R,G.out,m⟩
 case round=>
  have b7:=a0.gU;clear a0 bk R G m ce;obtain⟨c,p,f,I,r,M,HC,rfl,s,l,z,R,G,m⟩:=hrel;generalize wr=E at *;have cc:c<=n:=by have:=HC.out;omega
  have en:p<=c:=G.out.pc;have d1:=dq9 K cc;have ed:(0:Int)<=(c:Int):=by omega
  obtain⟨Ap,aw,rfl,ef⟩:=s.form;by_cases bf:c<n∧p<n
  ·obtain⟨bq,C⟩:=bf;have q1:(c:Int)<(n:Int):=by omega
   have q2:(p:Int)<(n:Int):=by omega
   obtain⟨ko,rfl⟩:∃ko,gk=ko+1:=⟨gk-1,by have:=HC.out;omega⟩;have ae:=G.out.len;have ap:=G.out.rl;go_wp2_with fail;go_loopg [12] (n-p) (fun k d5 wx=>∃j:Nat,Hid (j+k=n)∧d5= .int .i64 (j:Nat)∧p<=j∧Hid (∀i,p<=i->i<j->cf (r i) c=0)∧Below E.1.size E wx)
   case atStart=>exact⟨p,by unfold Hid;omega,rfl,aE,(fun i h1 h2=>by omega),aG _ _⟩
   case round=>
    obtain⟨j,HJ,rfl,eo,HZ,ak⟩:=hrel;generalize wr=wx at *;have al:=aC m ak;have ac:=l.be ak;have aq:=s.be ak;have ai:=z.be ak;have Rx:=R.be ak;obtain⟨s4,A4,k4,c4,s5,A5,k5,c5,D,af⟩:=id ai;have cM:=D.g4;cases gk with
    |zero=>
     obtain rfl:n=j:=(show j=n from HJ.out).symm;have da:=aB (G.out.none bq HZ.out (show kk K c<=kk K (c+1) from dq9 K (Nat.le_succ c)));clear G HZ;go_wp2_with fail;obtain⟨W6,e6,D6,A,hk,V⟩:=D.mut4 al (by omega) (.bool false) (.slice none 0 0) (.bool false) (.slice none 0 0) rfl rfl;rw[e6];go_roundg ko
     case rel=>exact⟨c+1,p,f,I,r,0,by have:=HC.out;unfold Hid;omega,by go_num,aq.mut V (by omega),ac.mut hk V (.inr hU),⟨_,_,_,_,_,_,_,_,D6,NQ.zero _⟩,V Rx (by omega),da.out,A⟩
     case measure=>omega
    |succ k1=>
     have an:j<n:=by have:=HJ.out;omega
     have q3:(j:Int)<(n:Int):=by omega
     have q4:(0:Int)<=(j:Int):=by omega
     have T:=ac.cell an;have cm:=ae j an;have Y:(r j)[c]? =some (cf (r j) c):=by rw[fZ (by omega)];exact aR (by omega)
     obtain⟨s6,A6,k6,c6,s7,A7,k7,c7,ar,P⟩:=ac.at_ an Y;have cq:RL (kk K c) (cf (r j) c):=ap j an _ (dG Y);have av:=fun W u h=>oC (cf (r j) c) u W h (aH cq.1 (by omega));rw[cm] at T;clear Y cm;go_wp2_with fail;refine(av _ _ P).mono ?_;rintro e4 w4 ⟨rfl,au⟩;have ah:=JG (cf (r j) c);by_cases hz:cf (r j) c=0
     ·rw[decide_eq_true hz] at ah;have df:Hid (∀i,p<=i->i<j+1->cf (r i) c=0):=fun i h1 h2=>by
       by_cases e:i=j
       ·rw[e];exact hz
       ·exact HZ.out i h1 (by omega)
      have dp:=aC ak au;clear hz HZ;generalize (cf (r j) c).num.sign=S at *;go_wp2;go_roundg k1
      case rel=>exact⟨j+1,by have:=HJ.out;unfold Hid;omega,by go_num,by omega,df,dp⟩
      case measure=>omega
     ·rw[decide_eq_false hz] at ah;have a7:=aB hz;clear hz;generalize (cf (r j) c).num.sign=S at *;replace ac:=ac.be au;replace aq:=aq.be au;replace ai:=ai.be au;replace Rx:=Rx.be au;replace al:=aC al au;obtain⟨s4,A4,k4,c4,s5,A5,k5,c5,D,af⟩:=id ai;have q6:((j:Int)==(n:Int))=false:=by rw[beq_eq_false_iff_ne];omega
      clear cM T ar P av cq au ak l s z R HZ m;have cM:=D.g4;go_upto_if 60 with fail;go_cut [] (fun wx=>∃(f I:Nat->Nat) (r:Nat->List Rat) (M:Rat),PivI wx (d+1) (.slice Ap p aw) p∧MatG wx B U g n f I r∧QVx wx d M∧Bx wx w.1.size [.bool false,.slice none 0 0,.bool false,.slice none 0 0] 58∧Hid (EchI n D0 (kk K c) r p c M∧cf (r p) c≠0)∧Below w.1.size w wx)
      case first=>
       by_cases bg:j=p
       ·have q7:((j:Int) != (p:Int))=false:=by rw[bg];simp
        have HF:Hid (EchI n D0 (kk K c) r p c M∧cf (r p) c≠0):=⟨G.out,by rw[<-bg];exact a7.out⟩;clear bg;go_wp2;go_meet;exact⟨f,I,r,M,aq,ac,ai,Rx,HF,al⟩
       ·have cn:p<j:=by omega
        have q7:((j:Int) != (p:Int))=true:=by rw[bne_iff_ne];omega
        have ha:=ac.cell an;have m:=ac.cell C;have ci:=ac.free;clear bg;go_upto_region 14 with fail;go_region;obtain⟨ax,J⟩:=ac.swapped C an cn;rw[ae p C,ae j an] at ax J;have bn:=(aq.step J (by have:=b7;omega)).be (aG _ _).drew;have dk:=(ai.step J (by have:=b7;omega)).be (aG _ _).drew;have Rs:Bx _ w.1.size [.bool false,.slice none 0 0,.bool false,.slice none 0 0] 58:=(show Bx _ w.1.size [.bool false,.slice none 0 0,.bool false,.slice none 0 0] 58 from(J.2.2.1 w.1.size (by omega)).trans Rx).drew;replace ax:=ax.be (aG _ _).drew;have ba:=(jD al J.2 (by omega)).drew;have HS:=aB (G.out.swap cn an);have HF:Hid (cf (dzG r p j p) c≠0):=by
         unfold Hid dzG;rw[dq2 (by omega),dz8];exact a7.out
        have kd:=G.out.rd;clear ac aq ai Rx al J ha m ci cM G a7;generalize ((w4.setCell ⟨g,j,none⟩ (.slice (some ⟨f p,0,none⟩) n (I p))).setCell ⟨g,p,none⟩ (.slice (some ⟨f j,0,none⟩) n (I j))).drew=w5 at *;obtain⟨s4,A4,k4,c4,s5,A5,k5,c5,D,af⟩:=id dk;have cM:=D.g4;have cr:=fun W u h=>yW M u W h (aH kd.1 (by omega));unfold eS at cr;go_wp2_with fail;refine(cr _ _ af).mono ?_;rintro e6 w6 ⟨v6,rfl,h6,A⟩;obtain⟨s6,A6,k6,c6,s7,A7,k7,c7,rfl⟩:=h6.form;replace ax:=ax.be A;replace bn:=bn.be A;replace D:=D.be A;replace Rs:=Rs.be A;replace ba:=aC ba A;replace cM:=D.g4;go_wp2_with fail;obtain⟨W6,e6,D6,dm,hk,V⟩:=D.mut4 ba (by omega) (.bool s6) (.slice A6 k6 c6) (.bool s7) (.slice A7 k7 c7) rfl rfl;rw[e6];clear e6;go_meet;exact⟨_,_,_,_,bn.mut V (by omega),ax.mut hk V (.inr hU),⟨_,_,_,_,_,_,_,_,D6,h6.ke hk⟩,V Rs (by omega),⟨HS.out,HF.out⟩,dm⟩
      case rest=>
       clear ac aq ai Rx D af cM G a7 al ah;obtain⟨f,I,r,M,s,l,z,R,G,m⟩:=hcut;generalize wc=wx at *;have ae:=G.out.1.len;have ap:=G.out.1.rl;have kd:=G.out.1.rd;have a8:=G.out.2;have b1:=G.out.1.step C bq a8;have ek:kk K (c+1)<=kk K n:=dq9 K bq;have el:kk K (c+1)=4*kk K c+1:=rfl;have T:=l.cell C;have a4:=ae p C;have Y:(r p)[c]? =some (cf (r p) c):=by rw[fZ (by omega)];exact aR (by omega)
       obtain⟨s6,A6,k6,c6,s7,A7,k7,c7,ar,P⟩:=l.at_ C Y;have kF:RL (kk K c) (cf (r p) c):=ap p C _ (dG Y);have ao:=fun W u v h h'=>dqH M (cf (r p) c) u v W h h' (kk K c) kd kF (by omega);have bb:=fun x W u v h h' (kx:RL (kk K c) x)=>vD x (cf (r p) c) u v W h h' (kk K c) kx kF (by omega) a8;rw[a4] at T;unfold eS at ao bb;have bj:=aB b1;clear Y kd b1;obtain⟨F,hF⟩:∃F,cf (r p) c=F:=⟨_,rfl⟩;rw[hF] at P ao bb bj a8 kF;have dc:=aB hF;clear hF;obtain⟨s4,A4,k4,c4,s5,A5,k5,c5,D,af⟩:=id z;obtain⟨w5,e5,Q,N⟩:=bI wx [.bool s6,.slice A6 k6 c6,.bool s7,.slice A7 k7 c7] 58;have dx:d<wx.1.size:=D.lt;have dj:=m.size;replace P:=P.be Q;replace af:=af.be Q;replace D:=D.be Q;replace l:=l.be Q;replace s:=s.be Q;replace R:=R.be Q;replace m:=aC m Q;have cM:=aa D.g4 N.k4;go_wp2_with fail;(try rw[e5]);(try clear e5);refine(ao _ _ _ af P).mono ?_;rintro e6 w6 ⟨v6,rfl,h6,A⟩;obtain⟨s8,A8,k8,c8,s9,A9,k9,c9,rfl⟩:=h6.form;obtain⟨fb,ch⟩:∃fb,wx.1.size=fb:=⟨_,rfl⟩;rw[ch] at N dx dj⊢;replace P:=P.be A;replace D:=D.be A;replace N:=N.be A;replace l:=l.be A;replace s:=s.be A;replace R:=R.be A;replace m:=aC m A;clear ch cM T ar Q A ao;have cM:=aa D.g4 N.k4;go_wp2_with fail;obtain⟨W7,e7,D7,aj,hk,V⟩:=D.mut4 m (by omega) (.bool s8) (.slice A8 k8 c8) (.bool s9) (.slice A9 k9 c9) rfl rfl;rw[e7];clear e7;replace P:=P.ke hk;have b6:QVx W7 d (M*F):=⟨_,_,_,_,_,_,_,_,D7,h6.ke hk⟩;replace l:=l.mut hk V (.inr hU);replace s:=s.mut V (by omega);replace R:=V R (by omega);replace N:=V N (by omega);clear D7 h6 m cM V hk D af z;have az:MatG W7 B U g n f I (dyT r p (dzI F (r p) 0)):=by rw[eyA,dqB];exact l
       clear l;have eh:U<=fb:=by omega
       go_loopg [14] n (fun k d6 E=>∃j:Nat,Hid (j+k=n)∧d6= .int .i64 (j:Nat)∧MatG E B U g n f I (dyT r p (dzI F (r p) j))∧PivI E (d+1) (.slice Ap p aw) p∧QVx E d (M*F)∧Bx E fb [.bool s6,.slice A6 k6 c6,.bool s7,.slice A7 k7 c7] 58∧NQ E (.agg #[.bool s6,.slice A6 k6 c6,.bool s7,.slice A7 k7 c7]) F∧Bx E w.1.size [.bool false,.slice none 0 0,.bool false,.slice none 0 0] 58∧Below w.1.size w E)
       case atStart=>exact⟨0,by unfold Hid;omega,rfl,az,s,b6,N,P,R,aj⟩
       case round=>
        clear az s b6 N P R aj;obtain⟨j,HJ,rfl,l,s,z,N,P,R,m⟩:=hrel;generalize wr=wz at *;have T:=l.cell C;rw[dz8,ex3,a4] at T;have q8:(0:Int)<=(j:Int):=by omega
        cases gk with
        |zero=>
         obtain rfl:n=j:=(show j=n from HJ.out).symm;rw[eyB a4] at l;obtain⟨y,hy⟩:∃y,(r p).map (·/F)=y:=⟨_,rfl⟩;have bx:y.length=n:=by rw[<-hy,cH];exact a4
         have ky:∀q∈y,RL (kk K c+kk K c) q:=fun q Y=>by
          rw[<-hy] at Y;obtain⟨x,hx,rfl⟩:=List.mem_map.1 Y;exact xS (ap p C x hx) kF
         rw[hy] at l;have b0:Hid (EchI n D0 (kk K (c+1)) (fun i=>if i=p then y else dzH n c (cf (r i) c) (r i) y) (p+1) (c+1) (M*F)):=by
          have:=bj.out;rw[hy] at this;exact this
         rw[<-eyI n c p r y] at l;clear hy bb bj dc P N a8;go_wp2_with fail;clear T;go_loopg [15] n (fun k d7 E=>∃i:Nat,Hid (i+k=n)∧d7= .int .i64 (i:Nat)∧MatG E B U g n f I (dyZ n c p r y i)∧PivI E (d+1) (.slice Ap p aw) p∧QVx E d (M*F)∧Bx E w.1.size [.bool false,.slice none 0 0,.bool false,.slice none 0 0] 58∧Below w.1.size w E)
         case atStart=>exact⟨0,by unfold Hid;omega,rfl,l,s,z,R,m⟩
         case round=>
          clear l s z R m;obtain⟨i,HI,rfl,l,s,z,R,m⟩:=hrel;generalize wr=wv at *;have er:(0:Int)<=(i:Int):=by omega
          cases gk with
          |zero=>
           obtain rfl:n=i:=(show i=n from HI.out).symm
           have db:Hid (EchI n D0 (kk K (c+1)) (dyZ n c p r y n) (p+1) (c+1) (M*F)):=b0.out.congr (fun k hk=>by
            unfold dyZ dq3;rw[if_pos hk])
           have a3:Below wv.1.size wv (wv.alloc (.cells #[.int .i64 (c:Int)] 3)):=(aG _ _).alloc aE _;have X1:=Bx.new wv [.int .i64 (c:Int)] 3;replace l:=l.be a3;replace s:=s.be a3;replace z:=z.be a3;replace R:=R.be a3;have ep:=m.size;replace m:=aC m a3;have dt:=z.lt;have d3:p<=1073741824:=by omega
           clear b0 ae ap ky;go_wp2_with (at_builtin;refine ey6 rfl rfl rfl s rfl X1 d3 dt ?_;intro v8 w8 d2 bc);have zG:=l.grown bc (fun g e=>(s.own g e).2.2) (fun g e=>by have:=(s.own g e).1;omega);have zD:=z.grown bc (fun g e=>(s.own g e).2.2) (fun e=>by have:=(s.own _ e).1;omega);have zR:Bx w8 w.1.size [.bool false,.slice none 0 0,.bool false,.slice none 0 0] 58:=(bc.block _ R.lt (fun e=>by have:=(s.own _ e.symm).1;omega)).trans R;have zb:=ey4 m bc (fun g e=>by have:=(s.own g e).1;omega) aE;go_wp2;go_roundg ko
           case rel=>exact⟨c+1,p+1,f,I,_,M*F,by have:=HC.out;unfold Hid;omega,by go_num,d2,zG,zD,zR,db.out,zb⟩
           case measure=>omega
          |succ k2=>
           have H:i<n:=by have:=HI.out;omega
           have es:(i:Int)<(n:Int):=by omega
           have T:=l.cell H;rw[ex8 ae bx H] at T;have a5:dyZ n c p r y i i=dyT r p y i:=ex4 ..;have cg:(dyT r p y i).length=n:=by rw[<-a5];exact ex8 ae bx H
           have ck:(dyZ n c p r y i i)[c]? =some (cf (dyT r p y i) c):=by rw[a5,fZ (by omega)];exact aR (by omega)
           obtain⟨sa,Aa,ka,ca,sb,Ab,kb,cb,ar,X⟩:=l.at_ H ck
           have a6:RL (kk K c+kk K c) (cf (dyT r p y i) c):=lV (fun q Y=>by
            unfold dyT at Y;split at Y
            ·exact ky q Y
            ·exact bU (ap i H q Y) (by omega)) (iG (by have:=xR kF;omega)) c
           have av:=fun W u h=>oC (cf (dyT r p y i) c) u W h (aH a6.1 (by omega));have ah:=JG (cf (dyT r p y i) c);obtain⟨w5,e5,Q,L⟩:=bI wv [.bool sa,.slice Aa ka ca,.bool sb,.slice Ab kb cb] 58;clear ck;have du:=z.lt;replace X:=X.be Q;replace l:=l.be Q;replace s:=s.be Q;replace z:=z.be Q;replace R:=R.be Q;have di:=m.size;replace m:=aC m Q;have cM:=L.g4;by_cases am:i=p
           ·have d4:((i:Int)==(p:Int))=true:=by rw[am];simp
            have HK:Hid (dyZ n c p r y (i+1)=dyZ n c p r y i):=ex7 (ae i H) (.inl am);clear am av ah cg a5;generalize cf (dyT r p y i) c=O at *;go_wp2_with fail;(try rw[e5]);(try clear e5);go_roundg k2
            case rel=>exact⟨i+1,by have:=HI.out;unfold Hid;omega,by go_num,by rw[HK.out];exact l,s,z,R,m⟩
            case measure=>omega
           ·have d4:((i:Int)==(p:Int))=false:=by rw[beq_eq_false_iff_ne];omega
            have bw:dyT r p y i=r i:=dq2 am;rw[bw] at av ah X a6;go_wp2_with fail;(try rw[e5]);(try clear e5);refine(av _ _ X).mono ?_;rintro e6 w6 ⟨rfl,A⟩;replace X:=X.be A;replace l:=l.be A;replace s:=s.be A;replace z:=z.be A;replace R:=R.be A;replace L:=L.be A;replace m:=aC m A;by_cases hz:cf (r i) c=0
            ·rw[decide_eq_true hz] at ah;have HK:Hid (dyZ n c p r y (i+1)=dyZ n c p r y i):=ex7 (ae i H) (.inr hz);clear hz;generalize (cf (r i) c).num.sign=S at *;go_wp2;go_roundg k2
             case rel=>exact⟨i+1,by have:=HI.out;unfold Hid;omega,by go_num,by rw[HK.out];exact l,s,z,R,m⟩
             case measure=>omega
            ·rw[decide_eq_false hz] at ah;generalize (cf (r i) c).num.sign=S at *;obtain⟨O,bs⟩:∃O,cf (r i) c=O:=⟨_,rfl⟩;rw[bs] at X a6;have HK:Hid (dyT (dyZ n c p r y i) i (dzA n c O (r i) y n)=dyZ n c p r y (i+1)):=by
              unfold Hid;rw[eyF,<-ex6];unfold dq3;rw[if_neg am,bs]
             have az:MatG w6 B U g n f I (dyT (dyZ n c p r y i) i (dzA n c O (r i) y c)):=by
              rw[eyE (ae i H),<-bw,<-a5,dqB];exact l
             obtain⟨gb,cj⟩:∃gb,wv.1.size=gb:=⟨_,rfl⟩;rw[cj] at L di du⊢;have ej:=ae i H;clear l cj bs hz T ar a5 cg bw Q A cM av;go_wp2_with fail;clear ah;go_loopg [17] (n-c) (fun k d8 E=>∃j:Nat,Hid (j+k=n)∧d8= .int .i64 (j:Nat)∧c<=j∧MatG E B U g n f I (dyT (dyZ n c p r y i) i (dzA n c O (r i) y j))∧PivI E (d+1) (.slice Ap p aw) p∧QVx E d (M*F)∧Bx E gb [.bool sa,.slice Aa ka ca,.bool sb,.slice Ab kb cb] 58∧NQ E (.agg #[.bool sa,.slice Aa ka ca,.bool sb,.slice Ab kb cb]) O∧Bx E w.1.size [.bool false,.slice none 0 0,.bool false,.slice none 0 0] 58∧Below w.1.size w E)
             case atStart=>exact⟨c,by unfold Hid;omega,rfl,aE,az,s,z,L,X,R,m⟩
             case round=>
              clear az s z L X R m;obtain⟨j,HJ,rfl,ds,l,s,z,L,X,R,m⟩:=hrel;generalize wr=wt at *;have et:(0:Int)<=(j:Int):=by omega
              have ab:=l.cell H;rw[dz8,dqP] at ab;cases gk with
              |zero=>
               obtain rfl:n=j:=(show j=n from HJ.out).symm;rw[HK.out] at l;go_wp2;go_roundg k2
               case rel=>exact⟨i+1,by have:=HI.out;unfold Hid;omega,by go_num,l,s,z,R,m⟩
               case measure=>omega
              |succ k3=>
               have bt:j<n:=by have:=HJ.out;omega
               have eu:(j:Int)<(n:Int):=by omega
               have ag:=l.cell C;rw[dq2 (fun e=>am e.symm),ex5,bx] at ag;have b3:(dyT (dyZ n c p r y i) i (dzA n c O (r i) y j) i)[j]? =some (cf (r i) j):=by rw[dz8];exact eyG bt
               have b4:(dyT (dyZ n c p r y i) i (dzA n c O (r i) y j) p)[j]? =some (cf y j):=by
                rw[dq2 (fun e=>am e.symm),ex5,fZ (by omega)];exact aR (by omega)
               obtain⟨sx,Ax,kx,cx,sy,Ay,eq,cy,x4,hX⟩:=l.at_ H b3;obtain⟨su,Au,ku,cu,sv,Av,kv,cv,y4,hY⟩:=l.at_ C b4;have cs:RL (kk K c) (cf (r i) j):=lV (ap i H) (iG (xR kF)) j;have bz:RL (kk K c+kk K c) (cf y j):=lV ky (iG (by have:=xR kF;omega)) j;have ao:=fun W u v h h'=>dqH O (cf y j) u v W h h' (kk K c+kk K c) a6 bz (by omega);have bv:=fun W u v h h'=>EC (cf (r i) j) (O*cf y j) u v W h h' (kk K c+kk K c+(kk K c+kk K c)) (bU cs (by omega)) (o6 a6 bz) (by omega);unfold eS at ao bv;have li:=(l.row i H).2.2.2.lt;have lp:=(l.row p C).2.2.2.lt;have fi:=(l.row i H).2.2.2.free;have ec:=(l.row i H).2.1;have d9:=(l.row i H).1;have cG:=L.k4;have de:Hid ((dzA n c O (r i) y j).set j (cf (r i) j-O*cf y j)=dzA n c O (r i) y (j+1)):=eyH ds bt;clear b3 b4 cs bz;generalize cf (r i) j-O*cf y j=nv at *;generalize O*cf y j=mv at *;go_upto_region 30 with fail;have ay:f i≠g:=fun e=>l.ne H e.symm;have cz:f i≠f p:=fun e=>am (l.inj i p H C e);have bi:f i≠gb:=by omega
               refine wp_region_noPanic ?_;refine wp_region_held_drew (S:=(fun w'=>w'.cell? ⟨g,i,none⟩=some (.slice (some ⟨f i,0,none⟩) n (I i))∧w'.cell? ⟨g,p,none⟩=some (.slice (some ⟨f p,0,none⟩) n (I p))∧R4 w' (f p) (j*4) (.bool su) (.slice Au ku cu) (.bool sv) (.slice Av kv cv)∧C4 w' gb (.bool sa) (.slice Aa ka ca) (.bool sb) (.slice Ab kb cb))) (by kernel_rfl) (by(try dsimp only);(with_reducible exact⟨dz2 ab,dz2 ag,y4.up lp,L.up.k4⟩)) (fun ad=> ?_);refine wpAnyH_take (i:=0) (oi:=_) (v:= ?_) rfl (by kernel_rfl) (by kernel_rfl) (by kernel_rfl) (fun _ _ _ h=>h) (Or.inl ⟨by rfl,?_⟩) (by assumption) ?_;rotate_left;focus (intro w a;(try dsimp only at a);go_simp;(try with_reducible rfl))
               (try simp only[Act.put,List.setIfInBounds_toArray,bz3,List.set_cons_succ]);refine wpAnyH_take (i:=1) (oi:=_) (v:= ?_) rfl (by kernel_rfl) (by kernel_rfl) (by kernel_rfl) (fun _ _ _ h=>h) (Or.inl ⟨by rfl,?_⟩) (by assumption) ?_;rotate_left;focus (intro w a;(try dsimp only at a);go_simp;(try with_reducible rfl))
               (try simp only[Act.put,List.setIfInBounds_toArray,bz3,List.set_cons_succ]);refine wpAnyH_take (i:=2) (oi:=_) (v:= ?_) rfl (by kernel_rfl) (by kernel_rfl) (by kernel_rfl) (fun _ _ _ h=>h) (Or.inl ⟨by rfl,?_⟩) (by assumption) ?_;rotate_left;focus (intro w a;(try dsimp only at a);go_simp;(try with_reducible rfl))
               (try simp only[Act.put,List.setIfInBounds_toArray,bz3,List.set_cons_succ]);refine wpAnyH_take (i:=3) (oi:=_) (v:= ?_) rfl (by kernel_rfl) (by kernel_rfl) (by kernel_rfl) (fun _ _ _ h=>h) (Or.inl ⟨by rfl,?_⟩) (by assumption) ?_;rotate_left;focus (intro w a;(try dsimp only at a);go_simp;(try with_reducible rfl))
               (try simp only[Act.put,List.setIfInBounds_toArray,bz3,List.set_cons_succ]);refine wpAnyH_take (i:=4) (oi:=_) (v:= ?_) rfl (by kernel_rfl) (by kernel_rfl) (by kernel_rfl) (fun _ _ _ h=>h) (Or.inl ⟨by rfl,?_⟩) (by assumption) ?_;rotate_left;focus (intro w a;(try dsimp only at a);go_simp;(try with_reducible rfl))
               (try simp only[Act.put,List.setIfInBounds_toArray,bz3,List.set_cons_succ]);refine wpAnyH_take (i:=5) (oi:=_) (v:= ?_) rfl (by kernel_rfl) (by kernel_rfl) (by kernel_rfl) (fun _ _ _ h=>h) (Or.inl ⟨by rfl,?_⟩) (by assumption) ?_;rotate_left;focus (intro w a;(try dsimp only at a);go_simp;(try with_reducible rfl))
               (try simp only[Act.put,List.setIfInBounds_toArray,bz3,List.set_cons_succ]);refine wpAnyH_take (i:=6) (oi:=_) (v:= ?_) rfl (by kernel_rfl) (by kernel_rfl) (by kernel_rfl) (fun _ _ _ h=>h) (Or.inl ⟨by rfl,?_⟩) (by assumption) ?_;rotate_left;focus (intro w a;(try dsimp only at a);go_simp;(try with_reducible rfl))
               (try simp only[Act.put,List.setIfInBounds_toArray,bz3,List.set_cons_succ]);refine wpAnyH_take (i:=7) (oi:=_) (v:= ?_) rfl (by kernel_rfl) (by kernel_rfl) (by kernel_rfl) (fun _ _ _ h=>h) (Or.inl ⟨by rfl,?_⟩) (by assumption) ?_;rotate_left;focus (intro w a;(try dsimp only at a);go_simp;(try with_reducible rfl))
               (try simp only[Act.put,List.setIfInBounds_toArray,bz3,List.set_cons_succ]);refine wpAnyH_take (i:=8) (oi:=_) (v:= ?_) rfl (by kernel_rfl) (by kernel_rfl) (by kernel_rfl) (fun _ _ _ h=>h) (Or.inl ⟨by rfl,?_⟩) (by assumption) ?_;rotate_left;focus (intro w a;(try dsimp only at a);go_simp;(try with_reducible rfl))
               (try simp only[Act.put,List.setIfInBounds_toArray,bz3,List.set_cons_succ]);refine wpAnyH_take (i:=9) (oi:=_) (v:= ?_) rfl (by kernel_rfl) (by kernel_rfl) (by kernel_rfl) (fun _ _ _ h=>h) (Or.inl ⟨by rfl,?_⟩) (by assumption) ?_;rotate_left;focus (intro w a;(try dsimp only at a);go_simp;(try with_reducible rfl))
               (try simp only[Act.put,List.setIfInBounds_toArray,bz3,List.set_cons_succ]);refine wpAnyH_take (i:=10) (oi:=_) (v:= ?_) rfl (by kernel_rfl) (by kernel_rfl) (by kernel_rfl) (fun _ _ _ h=>h) (Or.inl ⟨by rfl,?_⟩) (by assumption) ?_;rotate_left;focus (intro w a;(try dsimp only at a);go_simp;(try with_reducible rfl))
               (try simp only[Act.put,List.setIfInBounds_toArray,bz3,List.set_cons_succ]);refine wpAnyH_take (i:=12) (oi:=_) (v:= ?_) rfl (by kernel_rfl) (by kernel_rfl) (by kernel_rfl) (fun _ _ _ h=>h) (Or.inl ⟨by rfl,?_⟩) (by assumption) ?_;rotate_left;focus (intro w a;(try dsimp only at a);go_simp;(try with_reducible rfl))
               (try simp only[Act.put,List.setIfInBounds_toArray,bz3,List.set_cons_succ]);refine wpAnyH_take (i:=13) (oi:=_) (v:= ?_) rfl (by kernel_rfl) (by kernel_rfl) (by kernel_rfl) (fun _ _ _ h=>h) (Or.inl ⟨by rfl,?_⟩) (by assumption) ?_;rotate_left;focus (intro w a;(try dsimp only at a);go_simp;(try with_reducible rfl))
               (try simp only[Act.put,List.setIfInBounds_toArray,bz3,List.set_cons_succ]);refine wpAnyH_take (i:=14) (oi:=_) (v:= ?_) rfl (by kernel_rfl) (by kernel_rfl) (by kernel_rfl) (fun _ _ _ h=>h) (Or.inl ⟨by rfl,?_⟩) (by assumption) ?_;rotate_left;focus (intro w a;(try dsimp only at a);go_simp;(try with_reducible rfl))
               (try simp only[Act.put,List.setIfInBounds_toArray,bz3,List.set_cons_succ]);refine wpAnyH_take (i:=15) (oi:=_) (v:= ?_) rfl (by kernel_rfl) (by kernel_rfl) (by kernel_rfl) (fun _ _ _ h=>h) (Or.inl ⟨by rfl,?_⟩) (by assumption) ?_;rotate_left;focus (intro w a;(try dsimp only at a);go_simp;(try with_reducible rfl))
               (try simp only[Act.put,List.setIfInBounds_toArray,bz3,List.set_cons_succ]);refine wpAnyH_take (i:=16) (oi:=_) (v:= ?_) rfl (by kernel_rfl) (by kernel_rfl) (by kernel_rfl) (fun _ _ _ h=>h) (Or.inl ⟨by rfl,?_⟩) (by assumption) ?_;rotate_left;focus (intro w a;(try dsimp only at a);go_simp;(try with_reducible rfl))
               (try simp only[Act.put,List.setIfInBounds_toArray,bz3,List.set_cons_succ]);refine wpAnyH_take (i:=17) (oi:=_) (v:= ?_) rfl (by kernel_rfl) (by kernel_rfl) (by kernel_rfl) (fun _ _ _ h=>h) (Or.inl ⟨by rfl,?_⟩) (by assumption) ?_;rotate_left;focus (intro w a;(try dsimp only at a);go_simp;(try with_reducible rfl))
               (try simp only[Act.put,List.setIfInBounds_toArray,bz3,List.set_cons_succ]);refine wpAnyH_take (i:=18) (oi:=_) (v:= ?_) rfl (by kernel_rfl) (by kernel_rfl) (by kernel_rfl) (fun _ _ _ h=>h) (Or.inl ⟨by rfl,?_⟩) (by assumption) ?_;rotate_left;focus (intro w a;(try dsimp only at a);go_simp;(try with_reducible rfl))
               (try simp only[Act.put,List.setIfInBounds_toArray,bz3,List.set_cons_succ]);refine wpAnyH_take (i:=19) (oi:=_) (v:= ?_) rfl (by kernel_rfl) (by kernel_rfl) (by kernel_rfl) (fun _ _ _ h=>h) (Or.inl ⟨by rfl,?_⟩) (by assumption) ?_;rotate_left;focus (intro w a;(try dsimp only at a);go_simp;(try with_reducible rfl))
               (try simp only[Act.put,List.setIfInBounds_toArray,bz3,List.set_cons_succ]);refine wpAnyH_ready (rs:=[11,20]) (by kernel_rfl) (by simp) (AllReadyH.cons (o:=_) rfl (fun K t=> ?_) (AllReadyH.cons (o:=_) rfl (fun K t=> ?_) AllReadyH.nil))
               focus (
                go_simp;refine t.out _ _ (by(try dsimp only);(with_reducible exact⟨dz2 ab,dz2 ag,y4.up lp,L.up.k4⟩)) (fun ad=> ?_);clear t K;(try simp only[Act.put,List.setIfInBounds_toArray,bz3,List.set_cons_succ]);refine wpAnyH_ready (rs:=[20]) (by kernel_rfl) (by simp) (AllReadyH.cons (o:=_) rfl (fun K t=> ?_) AllReadyH.nil);go_simp;(go_at_call 89;refine(ao _ _ _ X.up hY.up).mono ?_;rintro e7 Z ⟨v7,rfl,h7,aj⟩;obtain⟨s8,A8,k8,c8,s9,A9,k9,c9,rfl⟩:=h7.form;have:=St.mk aj;have ox:=x4.up (b:=Z) li;have oi:=dz2 (b:=Z) ab);go_wp2_with fail;refine t.out _ _ (by(try dsimp only);(with_reducible exact⟨dz2 ab,dz2 ag,y4.up lp,L.up.k4⟩)) (fun ad=> ?_);clear t K;(try simp only[Act.put,List.setIfInBounds_toArray,bz3,List.set_cons_succ]);refine wpAnyH_ready (rs:=[21]) (by kernel_rfl) (by simp) (AllReadyH.cons (o:=_) rfl (fun K t=> ?_) AllReadyH.nil);go_simp;(go_at_call 140;refine(bv _ _ _ hX.up h7.up).mono ?_;rintro e0 w0 ⟨v0,rfl,h0,bo⟩;obtain⟨st,At,kt,ct,sw,Aw,kw,cw,rfl⟩:=h0.form;have:=St.mk bo;have G7:=l.up (b:=w0);have o7:=x4.up (b:=w0) li;have f7:=(G7.row i H).2.2.2.free;have b9:=dz2 (b:=w0) ab);go_wp2_with fail;refine t.out _ _ (by(try dsimp only);(with_reducible exact⟨dz2 ab,dz2 ag,y4.up lp,L.up.k4⟩)) (fun ad=> ?_);clear t K;(try simp only[Act.put,List.setIfInBounds_toArray,bz3,List.set_cons_succ]);refine wpAnyH_take (i:=22) (oi:=_) (v:= ?_) rfl (by kernel_rfl) (by kernel_rfl) (by kernel_rfl) (fun _ _ _ h=>h) (Or.inl ⟨by rfl,?_⟩) (by assumption) ?_;rotate_left;focus (intro w a;(try dsimp only at a);go_simp;(try with_reducible rfl))
                (try simp only[Act.put,List.setIfInBounds_toArray,bz3,List.set_cons_succ]);refine wpAnyH_ready (rs:=[23]) (by kernel_rfl) (by simp) (AllReadyH.cons (o:=_) rfl (fun K t=> ?_) AllReadyH.nil);go_simp;refine t.out _ _ (by(try dsimp only);(with_reducible exact⟨dzQ ay (dz2 ab),dzQ ay (dz2 ag),dqX cz (y4.up lp),dqN bi L.up.k4⟩)) (fun ad=> ?_);clear t K;(try simp only[Act.put,List.setIfInBounds_toArray,bz3,List.set_cons_succ]);refine wpAnyH_done (by kernel_rfl) ?_ _;refine NoPanic.normal ?_)
               rotate_left
               focus (
                go_simp;(go_at_call 89;refine(ao _ _ _ X.up hY.up).mono ?_;rintro e7 Z ⟨v7,rfl,h7,aj⟩;obtain⟨s8,A8,k8,c8,s9,A9,k9,c9,rfl⟩:=h7.form;have:=St.mk aj;have ox:=x4.up (b:=Z) li;have oi:=dz2 (b:=Z) ab);go_wp2_with fail;refine t.out _ _ (by(try dsimp only);(with_reducible exact⟨dz2 ab,dz2 ag,y4.up lp,L.up.k4⟩)) (fun ad=> ?_);clear t K;(try simp only[Act.put,List.setIfInBounds_toArray,bz3,List.set_cons_succ]);refine wpAnyH_ready (rs:=[11]) (by kernel_rfl) (by simp) (AllReadyH.cons (o:=_) rfl (fun K t=> ?_) AllReadyH.nil);go_simp;refine t.out _ _ (by(try dsimp only);(with_reducible exact⟨dz2 ab,dz2 ag,y4.up lp,L.up.k4⟩)) (fun ad=> ?_);clear t K;(try simp only[Act.put,List.setIfInBounds_toArray,bz3,List.set_cons_succ]);refine wpAnyH_ready (rs:=[21]) (by kernel_rfl) (by simp) (AllReadyH.cons (o:=_) rfl (fun K t=> ?_) AllReadyH.nil);go_simp;(go_at_call 140;refine(bv _ _ _ hX.up h7.up).mono ?_;rintro e0 w0 ⟨v0,rfl,h0,bo⟩;obtain⟨st,At,kt,ct,sw,Aw,kw,cw,rfl⟩:=h0.form;have:=St.mk bo;have G7:=l.up (b:=w0);have o7:=x4.up (b:=w0) li;have f7:=(G7.row i H).2.2.2.free;have b9:=dz2 (b:=w0) ab);go_wp2_with fail;refine t.out _ _ (by(try dsimp only);(with_reducible exact⟨dz2 ab,dz2 ag,y4.up lp,L.up.k4⟩)) (fun ad=> ?_);clear t K;(try simp only[Act.put,List.setIfInBounds_toArray,bz3,List.set_cons_succ]);refine wpAnyH_take (i:=22) (oi:=_) (v:= ?_) rfl (by kernel_rfl) (by kernel_rfl) (by kernel_rfl) (fun _ _ _ h=>h) (Or.inl ⟨by rfl,?_⟩) (by assumption) ?_;rotate_left;focus (intro w a;(try dsimp only at a);go_simp;(try with_reducible rfl))
                (try simp only[Act.put,List.setIfInBounds_toArray,bz3,List.set_cons_succ]);refine wpAnyH_ready (rs:=[23]) (by kernel_rfl) (by simp) (AllReadyH.cons (o:=_) rfl (fun K t=> ?_) AllReadyH.nil);go_simp;refine t.out _ _ (by(try dsimp only);(with_reducible exact⟨dzQ ay (dz2 ab),dzQ ay (dz2 ag),dqX cz (y4.up lp),dqN bi L.up.k4⟩)) (fun ad=> ?_);clear t K;(try simp only[Act.put,List.setIfInBounds_toArray,bz3,List.set_cons_succ]);refine wpAnyH_done (by kernel_rfl) ?_ _;refine NoPanic.normal ?_)
               all_goals (
                go_wp2_with fail;obtain⟨zG,J⟩:=G7.stored H (show j<(dyT (dyZ n c p r y i) i (dzA n c O (r i) y j) i).length by rw[dz8,dqP];exact bt) h0;rw[dz8,de.out,dqD] at zG;have zb:=jD (bJ (b:=w0) m) J.2 (by omega);have zP:=(s.up (b:=w0)).step J (by omega);have zD:=(z.up (b:=w0)).step J (by omega);have zF:Bx _ gb [.bool sa,.slice Aa ka ca,.bool sb,.slice Ab kb cb] 58:=(J.2.2.1 gb (by omega)).trans (L.up (b:=w0));have zR:Bx _ w.1.size [.bool false,.slice none 0 0,.bool false,.slice none 0 0] 58:=(J.2.2.1 w.1.size (by omega)).trans (R.up (b:=w0));have zN:=(X.up (b:=w0)).ke J.1;go_roundg k3
                case rel=>exact⟨j+1,by have:=HJ.out;unfold Hid;omega,by go_num,by omega,zG,zP,zD,zF,zN,zR,zb⟩
                case measure=>omega)
        |succ k1=>
         have d0:j<n:=by have:=HJ.out;omega
         have q9:(j:Int)<(n:Int):=by omega
         have cl:(dyT r p (dzI F (r p) j) p)[j]? =some (cf (r p) j):=by rw[dz8];exact eyC (by omega)
         obtain⟨sa,Aa,ka,ca,sb,Ab,kb,cb,ar,X⟩:=l.at_ C cl;have kx:RL (kk K c) (cf (r p) j):=ap p C _ (by rw[fZ (by omega)];exact az6 _);have dw:=fun W u v h h'=>bb (cf (r p) j) W u v h h' kx;have dy:=(l.row p C).2.2.2.lt;have ci:=(l.row p C).2.2.2.free;have cF:=N.k4;clear cl kx;go_upto_region 21 with fail;have ay:f p≠g:=fun e=>l.ne C e.symm;have bi:f p≠fb:=by have:=(l.row p C).2.1;omega
         refine wp_region_noPanic ?_;refine wp_region_held_drew (S:=(fun w'=>w'.cell? ⟨g,p,none⟩=some (.slice (some ⟨f p,0,none⟩) n (I p))∧C4 w' fb (.bool s6) (.slice A6 k6 c6) (.bool s7) (.slice A7 k7 c7))) (by kernel_rfl) (by(try dsimp only);(with_reducible exact⟨dz2 T,N.up.k4⟩)) (fun ad=> ?_);refine wpAnyH_take (i:=0) (oi:=_) (v:= ?_) rfl (by kernel_rfl) (by kernel_rfl) (by kernel_rfl) (fun _ _ _ h=>h) (Or.inl ⟨by rfl,?_⟩) (by assumption) ?_;rotate_left;focus (intro w a;(try dsimp only at a);go_simp;(try with_reducible rfl))
         (try simp only[Act.put,List.setIfInBounds_toArray,bz3,List.set_cons_succ]);refine wpAnyH_take (i:=1) (oi:=_) (v:= ?_) rfl (by kernel_rfl) (by kernel_rfl) (by kernel_rfl) (fun _ _ _ h=>h) (Or.inl ⟨by rfl,?_⟩) (by assumption) ?_;rotate_left;focus (intro w a;(try dsimp only at a);go_simp;(try with_reducible rfl))
         (try simp only[Act.put,List.setIfInBounds_toArray,bz3,List.set_cons_succ]);refine wpAnyH_take (i:=2) (oi:=_) (v:= ?_) rfl (by kernel_rfl) (by kernel_rfl) (by kernel_rfl) (fun _ _ _ h=>h) (Or.inl ⟨by rfl,?_⟩) (by assumption) ?_;rotate_left;focus (intro w a;(try dsimp only at a);go_simp;(try with_reducible rfl))
         (try simp only[Act.put,List.setIfInBounds_toArray,bz3,List.set_cons_succ]);refine wpAnyH_take (i:=3) (oi:=_) (v:= ?_) rfl (by kernel_rfl) (by kernel_rfl) (by kernel_rfl) (fun _ _ _ h=>h) (Or.inl ⟨by rfl,?_⟩) (by assumption) ?_;rotate_left;focus (intro w a;(try dsimp only at a);go_simp;(try with_reducible rfl))
         (try simp only[Act.put,List.setIfInBounds_toArray,bz3,List.set_cons_succ]);refine wpAnyH_take (i:=4) (oi:=_) (v:= ?_) rfl (by kernel_rfl) (by kernel_rfl) (by kernel_rfl) (fun _ _ _ h=>h) (Or.inl ⟨by rfl,?_⟩) (by assumption) ?_;rotate_left;focus (intro w a;(try dsimp only at a);go_simp;(try with_reducible rfl))
         (try simp only[Act.put,List.setIfInBounds_toArray,bz3,List.set_cons_succ]);refine wpAnyH_take (i:=5) (oi:=_) (v:= ?_) rfl (by kernel_rfl) (by kernel_rfl) (by kernel_rfl) (fun _ _ _ h=>h) (Or.inl ⟨by rfl,?_⟩) (by assumption) ?_;rotate_left;focus (intro w a;(try dsimp only at a);go_simp;(try with_reducible rfl))
         (try simp only[Act.put,List.setIfInBounds_toArray,bz3,List.set_cons_succ]);refine wpAnyH_take (i:=6) (oi:=_) (v:= ?_) rfl (by kernel_rfl) (by kernel_rfl) (by kernel_rfl) (fun _ _ _ h=>h) (Or.inl ⟨by rfl,?_⟩) (by assumption) ?_;rotate_left;focus (intro w a;(try dsimp only at a);go_simp;(try with_reducible rfl))
         (try simp only[Act.put,List.setIfInBounds_toArray,bz3,List.set_cons_succ]);refine wpAnyH_take (i:=7) (oi:=_) (v:= ?_) rfl (by kernel_rfl) (by kernel_rfl) (by kernel_rfl) (fun _ _ _ h=>h) (Or.inl ⟨by rfl,?_⟩) (by assumption) ?_;rotate_left;focus (intro w a;(try dsimp only at a);go_simp;(try with_reducible rfl))
         (try simp only[Act.put,List.setIfInBounds_toArray,bz3,List.set_cons_succ]);refine wpAnyH_take (i:=8) (oi:=_) (v:= ?_) rfl (by kernel_rfl) (by kernel_rfl) (by kernel_rfl) (fun _ _ _ h=>h) (Or.inl ⟨by rfl,?_⟩) (by assumption) ?_;rotate_left;focus (intro w a;(try dsimp only at a);go_simp;(try with_reducible rfl))
         (try simp only[Act.put,List.setIfInBounds_toArray,bz3,List.set_cons_succ]);refine wpAnyH_take (i:=9) (oi:=_) (v:= ?_) rfl (by kernel_rfl) (by kernel_rfl) (by kernel_rfl) (fun _ _ _ h=>h) (Or.inl ⟨by rfl,?_⟩) (by assumption) ?_;rotate_left;focus (intro w a;(try dsimp only at a);go_simp;(try with_reducible rfl))
         (try simp only[Act.put,List.setIfInBounds_toArray,bz3,List.set_cons_succ]);refine wpAnyH_take (i:=10) (oi:=_) (v:= ?_) rfl (by kernel_rfl) (by kernel_rfl) (by kernel_rfl) (fun _ _ _ h=>h) (Or.inl ⟨by rfl,?_⟩) (by assumption) ?_;rotate_left;focus (intro w a;(try dsimp only at a);go_simp;(try with_reducible rfl))
         (try simp only[Act.put,List.setIfInBounds_toArray,bz3,List.set_cons_succ]);refine wpAnyH_take (i:=12) (oi:=_) (v:= ?_) rfl (by kernel_rfl) (by kernel_rfl) (by kernel_rfl) (fun _ _ _ h=>h) (Or.inl ⟨by rfl,?_⟩) (by assumption) ?_;rotate_left;focus (intro w a;(try dsimp only at a);go_simp;(try with_reducible rfl))
         (try simp only[Act.put,List.setIfInBounds_toArray,bz3,List.set_cons_succ]);refine wpAnyH_ready (rs:=[11]) (by kernel_rfl) (by simp) (AllReadyH.cons (o:=_) rfl (fun K t=> ?_) AllReadyH.nil);go_simp;refine t.out _ _ (by(try dsimp only);(with_reducible exact⟨dz2 T,N.up.k4⟩)) (fun ad=> ?_);clear t K;(try simp only[Act.put,List.setIfInBounds_toArray,bz3,List.set_cons_succ]);refine wpAnyH_ready (rs:=[13]) (by kernel_rfl) (by simp) (AllReadyH.cons (o:=_) rfl (fun K t=> ?_) AllReadyH.nil);go_simp;(go_at_call 32;refine(dw _ _ _ X.up P.up).mono ?_;rintro e7 Z ⟨v7,rfl,h7,aj⟩;obtain⟨s8,A8,k8,c8,s9,A9,k9,c9,rfl⟩:=h7.form;have:=St.mk aj;have G7:=l.up (b:=Z);have o7:=ar.up (b:=Z) dy;have f7:=(G7.row p C).2.2.2.free;have b9:=dz2 (b:=Z) T);go_wp2_with fail;refine t.out _ _ (by(try dsimp only);(with_reducible exact⟨dz2 T,N.up.k4⟩)) (fun ad=> ?_);clear t K;(try simp only[Act.put,List.setIfInBounds_toArray,bz3,List.set_cons_succ]);refine wpAnyH_take (i:=14) (oi:=_) (v:= ?_) rfl (by kernel_rfl) (by kernel_rfl) (by kernel_rfl) (fun _ _ _ h=>h) (Or.inl ⟨by rfl,?_⟩) (by assumption) ?_;rotate_left;focus (intro w a;(try dsimp only at a);go_simp;(try with_reducible rfl))
         (try simp only[Act.put,List.setIfInBounds_toArray,bz3,List.set_cons_succ]);refine wpAnyH_ready (rs:=[15]) (by kernel_rfl) (by simp) (AllReadyH.cons (o:=_) rfl (fun K t=> ?_) AllReadyH.nil);go_simp;refine t.out _ _ (by(try dsimp only);(with_reducible exact⟨dzQ ay (dz2 T),dqN bi N.up.k4⟩)) (fun ad=> ?_);clear t K;(try simp only[Act.put,List.setIfInBounds_toArray,bz3,List.set_cons_succ]);refine wpAnyH_done (by kernel_rfl) ?_ _;refine NoPanic.normal ?_
         all_goals (
          go_wp2_with fail;obtain⟨zG,J⟩:=G7.stored C (show j<(dyT r p (dzI F (r p) j) p).length by rw[dz8,ex3,a4];exact d0) h7;rw[dz8,eyD (by omega),dqD] at zG;have ei:=(G7.row p C).2.1;have eg:=(G7.row p C).1;have zb:=jD (bJ (b:=Z) m) J.2 (by omega);have zP:=(s.up (b:=Z)).step J (by omega);have zD:=(z.up (b:=Z)).step J (by omega);have zF:Bx _ fb [.bool s6,.slice A6 k6 c6,.bool s7,.slice A7 k7 c7] 58:=(J.2.2.1 fb (by omega)).trans (N.up (b:=Z));have zR:Bx _ w.1.size [.bool false,.slice none 0 0,.bool false,.slice none 0 0] 58:=(J.2.2.1 w.1.size (by omega)).trans (R.up (b:=Z));have zN:=(P.up (b:=Z)).ke J.1;go_roundg k1
          case rel=>exact⟨j+1,by have:=HJ.out;unfold Hid;omega,by go_num,zG,zP,zD,zF,zN,zR,zb⟩
          case measure=>omega)
  ·have bh:=G.out.last cc bf;have cd:c=n:=by omega
   have q1:¬(c:Int)<(n:Int):=by omega
   have kD:=bU G.out.rd d1;obtain⟨s4,A4,k4,c4,s5,A5,k5,c5,D,af⟩:=id z;have cM:=aa D.g4 R.g4;by_cases C:p<n
   ·rw[if_pos C] at bh;have q2:(p:Int)<(n:Int):=by omega
    subst bh;have kz:RL (kk K n) 0:=iG (xR kD);clear G bf cd z kD;go_upto_region 34 with fail;obtain⟨W6,e6,D6,A,hk,V⟩:=D.mut4 m (by omega) (.bool false) (.slice none 0 0) (.bool false) (.slice none 0 0) rfl rfl;rw[e6];clear e6;replace R:=V R (by omega);replace cM:=aa D6.g4 R.g4;go_region
    all_goals (
     go_wp2_with fail;obtain⟨W8,e8,R8,bp,co,dh⟩:=R.mut4 A aE (.bool false) (.slice none 0 0) (.bool false) (.slice none 0 0) rfl rfl;rw[e8];exact aM (v:= .tuple #[.slice (some ⟨g,0,none⟩) n c1,.slice Ap p aw,.agg #[.bool false,.slice none 0 0,.bool false,.slice none 0 0]]) (by simp[results,results76,go_sem,R8.drew.k4]) rfl ⟨_,_,_,rfl,NQ.zero _,kz,bp.drew⟩)
   ·rw[if_neg C] at bh;have q2:¬(p:Int)<(n:Int):=by omega
    subst bh;clear G bf cd z;go_upto_region 34 with fail;go_region
    all_goals (
     go_wp2_with fail;obtain⟨W8,e8,R8,bp,co,dh⟩:=R.mut4 m aE (.bool s4) (.slice A4 k4 c4) (.bool s5) (.slice A5 k5 c5) rfl rfl;rw[e8];exact aM (v:= .tuple #[.slice (some ⟨g,0,none⟩) n c1,.slice Ap p aw,.agg #[.bool s4,.slice A4 k4 c4,.bool s5,.slice A5 k5 c5]]) (by simp[results,results76,go_sem,R8.drew.k4]) rfl ⟨_,_,_,rfl,(af.ke co).drew,kD,bp.drew⟩)
def dzD(n:Nat)(v:Vc):Vc:=fun i=>if i<n then v i else 0
def eyL(n:Nat)(v:Vc):bN (dzD (n+1) v)=dzD n (bN v):=funext fun i=>by
 show(if i+1<n+1 then v (i+1) else 0)=if i<n then v (i+1) else 0
 by_cases h:i<n
 ·rw[if_pos h,if_pos (by omega)]
 ·rw[if_neg h,if_neg (by omega)]
def ex9{n:Nat}(h:∀L,dyV n (L.map (dzD n))=dyV n L):∀(R P:List Vc),eF (dyV n) (P.map (dzD (n+1))) (R.map (dzD (n+1)))=eF (dyV n) P R
 |[],_=>rfl
 |u :: R,P=>by
  have a:=ex9 h R (P++[u]);have b:(P.map (dzD (n+1))++R.map (dzD (n+1))).map bN=((P++R).map bN).map (dzD n):=by
   rw[<-azM,List.map_map,List.map_map];exact bxH fun v _=>eyL n v
  show dzD (n+1) u 0*dyV n ((P.map (dzD (n+1))++R.map (dzD (n+1))).map bN)-eF (dyV n) (P.map (dzD (n+1))++[dzD (n+1) u]) (R.map (dzD (n+1)))=u 0*dyV n ((P++R).map bN)-eF (dyV n) (P++[u]) R
  rw[azM,List.map_singleton] at a;rw[b,h,a,show dzD (n+1) u 0=u 0 from if_pos (Nat.succ_pos n)]
def dqQ:∀(n:Nat) (L:List Vc),dyV n (L.map (dzD n))=dyV n L
 |0,_=>rfl
 |n+1,L=>ex9 (dqQ n) L []
def eyM{L M:List Vc}(h:L.length=M.length)(e:∀t (a:t<L.length) (b:t<M.length) i,i<n->L[t] i=M[t] i):dyV n L=dyV n M:=by
 rw[<-dqQ n L,<-dqQ n M];congr 1;refine cz0 (by simpa using h) fun t a b=> ?_;rw[List.getElem_map,List.getElem_map];funext i;unfold dzD;split
 ·rename_i c;exact e t (by simpa using a) (by simpa using b) i c
 ·rfl
def dyY(N s:Nat)(x:List Rat)(d k:Nat):List Rat:=(List.range N).map fun j=>if s<=j∧j<s+k then cf x (d-(j-s)) else 0
def dq8(N s:Nat)(x:List Rat)(d k:Nat):(dyY N s x d k).length=N:=by simp[dyY]
def exA(N s:Nat)(x:List Rat)(d:Nat):dyY N s x d 0=List.replicate N 0:=by
 unfold dyY;refine cz0 (by simp) fun i a b=> ?_;rw[List.getElem_map,List.getElem_range,List.getElem_replicate,if_neg (by omega)]
def exB{d:Nat}(h:s+k<N):(dyY N s x d k).set (s+k) (cf x (d-k))=dyY N s x d (k+1):=by
 refine SP fun i=> ?_;rw[List.getElem?_set,dq8];unfold dyY;by_cases e:s+k=i
 ·subst e;rw[if_pos rfl,if_pos h,iK,aqM h,bxU,if_pos (by omega),show s+k-s=k by omega]
 ·rw[if_neg e,iK,iK];by_cases b:i<N
  ·rw[aqM b,bxU,bxU];congr 1;by_cases a:s<=i∧i<s+k
   ·rw[if_pos a,if_pos (by omega)]
   ·rw[if_neg a,if_neg (by omega)]
  ·rw[fU (by simp;omega)];rfl
def exC{d:Nat}(a:j<N):cf (dyY N s x d k) j=if s<=j∧j<s+k then cf x (d-(j-s)) else 0:=by
 unfold dyY;rw[qA,if_pos a]
def exD{d:Nat}(c:∀q∈x,RL K q)(a:1<=K):∀q∈dyY N s x d k,RL K q:=fun q b=>by
 unfold dyY at b;obtain⟨j,_,rfl⟩:=List.mem_map.1 b;split
 ·exact lV c (iG a) _
 ·exact iG a
def dzJ(n m:Nat)(a b:List Rat)(t:Nat):List Rat:=if t<m then dyY (n+m) t a n (n+1) else dyY (n+m) (t-m) b m (m+1)
def dyX(n m:Nat)(a b:List Rat)(c t:Nat):List Rat:=if t<c then dzJ n m a b t else List.replicate (n+m) 0
def eyN(n m:Nat)(a b:List Rat)(t:Nat):(dzJ n m a b t).length=n+m:=by unfold dzJ;split<;>exact dq8 ..
def eyO(n m:Nat)(a b:List Rat)(c t:Nat):(dyX n m a b c t).length=n+m:=by
 unfold dyX;split
 ·exact eyN ..
 ·exact dB
def exE(n m:Nat)(a b:List Rat)(c:Nat):dyT (dyX n m a b c) c (dzJ n m a b c)=dyX n m a b (c+1):=by
 funext t;unfold dyX;by_cases e:t=c
 ·subst e;rw[dz8,if_pos (by omega)]
 ·rw[dq2 e];by_cases d:t<c
  ·rw[if_pos d,if_pos (by omega)]
  ·rw[if_neg d,if_neg (by omega)]
def eyP{m:Nat}{a b:List Rat}(j:a.length=n+1)(k:b.length=m+1):dyV (n+m) (dzB (n+m) (dzJ n m a b))=eZ m n 0 0 (cf a) (cf b):=by
 unfold eZ Dt;rw[G5 m n];refine eyM (by rw[dzR];simp;omega) fun t f h i d=> ?_;rw[dzR] at f;have g:L9 (n+m) (n+m+0-1) 0 i=n+m-1-i:=by unfold L9;split<;>omega
 rw[dzL,List.getElem_map];show cf (dzJ n m a b t) i=(((dn m).map (b6 · (cf a))++(dn n).map (b6 · (cf b)))[t]'(by simp;omega)) (L9 (n+m) (n+m+0-1) 0 i)
 rw[g,List.getElem_append];unfold dzJ;by_cases c:t<m
 ·rw[if_pos c,dif_pos (by simpa using c),List.getElem_map,cyD,exC d];show _=b6 (m-1-t) (cf a) (n+m-1-i)
  unfold b6;by_cases e:t<=i∧i<t+(n+1)
  ·rw[if_pos e,if_pos (by omega)];congr 1;omega
  ·rw[if_neg e];split
   ·rw[bV (by omega)]
   ·rfl
 ·rw[if_neg c,dif_neg (by simpa using c),List.getElem_map,cyD,exC d];show _=b6 (n-1-(t-_)) (cf b) (n+m-1-i)
  rw[cH,dn_length];unfold b6;by_cases e:t-m<=i∧i<t-m+(m+1)
  ·rw[if_pos e,if_pos (by omega)];congr 1;omega
  ·rw[if_neg e];split
   ·rw[bV (by omega)]
   ·rfl
def dq4(N:Nat):Nat->List Rat:=fun _=>List.replicate N 0
def exF(N i:Nat):(dq4 N i).length=N:=dB
def eyQ{f a:Nat->Nat}:(dz7 j f a (dq4 N)++List.replicate (k+1) (Value.slice none 0 0)).set j (.slice (some ⟨b,0,none⟩) N c)=dz7 (j+1) (fun i=>if i=j then b else f i) (fun i=>if i=j then c else a i) (dq4 N)++List.replicate k (.slice none 0 0):=by
 rw[ex0,bz2 _ _ (by rw[dz9];exact aE),dz9,dzC,dzU,bz3,eK,exF];rfl
def eyR(N:Nat)(w:World)(T:1<=N)(U:N<=1000):Calls prog 75 #[.int .i64 N,.int .i64 N] w (dqC w N (dq4 N)):=by
 go_enter func75,ntmps75;go_wp2_with (at_make;refine jT rfl rfl 50 _ 1 24 underlying118 ML rfl (by decide) N rfl rfl (by first|rfl|omega) (by first|rfl|omega) (by omega) (by omega) ?_;intro E P C x);have q:Bx E w.1.size (dz7 0 (fun _=>0) (fun _=>0) (dq4 N)++List.replicate N (Value.slice none 0 0)) 50:=by
  have h:Bx E w.1.size (List.replicate N [Value.slice none 0 0]).flatten 50:=C.1;have e:(List.replicate N [Value.slice none 0 0]).flatten=List.replicate N (Value.slice none 0 0):=by simp
  rw[e] at h;exact h
 clear C P;obtain⟨g,z⟩:∃g,w.1.size=g:=⟨_,rfl⟩;have A:=q.lt;rw[z] at q A⊢;have B:w.1.size<=g:=by omega
 clear z;go_loopg [6] N (fun k i wr=>∃(j:Nat) (f o:Nat->Nat),Hid (j+k=N)∧i= .int .i64 (j:Nat)∧Bx wr g (dz7 j f o (dq4 N)++List.replicate k (Value.slice none 0 0)) 50∧(∀i,i<j->w.1.size<=f i∧N<=o i∧OwnQ wr (f i) (List.replicate N 0))∧(∀i k,i<j->k<j->f i=f k->i=k)∧Below w.1.size w wr)
 case atStart=>exact⟨0,_,_,by unfold Hid;omega,rfl,q,(fun i h=>by omega),(fun i k h=>by omega),x⟩
 case round=>
  clear q x A;obtain⟨j,f,o,r,rfl,a,d,u,m⟩:=hrel;generalize wr=c at *;have q0:(0:Int)<=(j:Int):=by omega
  cases gk with
  |zero=>
   obtain rfl:N=j:=(show j=N from r.out).symm;rw[F8] at a;go_wp2;go_ret;exact⟨g,N,f,o,rfl,aE,⟨B,a.lt,⟨[],a⟩,fun i n=>⟨(d i n).1,(d i n).2.2.lt,by rw[exF];exact(d i n).2.1,(d i n).2.2⟩,u⟩,m⟩
  |succ k=>
   have Y:j<N:=by have:=r.out;omega
   have q1:(j:Int)<(N:Int):=by omega
   have W:=a.free;have L:∀t,Below c.1.size c t->t.cell? ⟨g,j,none⟩=some (.slice none 0 0):=fun t h=>(a.be h).cell j (by rw[fK (by rw[dz9];exact aE),dz9,dzC];rfl);have K:=m.size;have X:=a.lt;go_wp2_with (at_make;refine jT rfl rfl 58 _ 4 64 underlying50 sJ rfl (by decide) N rfl rfl (by first|rfl|omega) (by first|rfl|omega) (by omega) (by omega) ?_;intro F ab O p;have y:=L _ p;have V:=(a.be p).free);have H:=OwnQ.made O;have M:=KM.put y (NoInt.slice _ _ _) (.slice (some ⟨c.1.size,0,none⟩) N N);have s:r6 g F (F.setCell ⟨g,j,none⟩ (.slice (some ⟨c.1.size,0,none⟩) N N)):=⟨M,Keep.put y (NoInt.slice _ _ _) _,fun b m=>Below.heap_setCell _ ⟨g,j,none⟩ _ b m,by simp,rfl,rfl,rfl⟩;have G:=(a.be p).set j (.slice (some ⟨c.1.size,0,none⟩) N N);rw[eyQ] at G;have zb:=jD (aC m p) s.2 B;go_roundg k
   case rel=>exact⟨j+1,_,_,by have:=r.out;unfold Hid;omega,by go_num,G,(fun i n=>by
    by_cases e:i=j
    ·subst e;simp only[if_true];exact⟨K,aE,H.step s (by omega)⟩
    ·simp only[if_neg e];obtain⟨Q,R,D⟩:=d i (by omega);refine⟨Q,R,(D.be p).step s (fun I=> ?_)⟩;obtain⟨S,v, -⟩:=D;rw[I] at v;have J:c.heap[g]? =some (.cells S.flatten.toArray 58 (0,0)):=v.1;have l:c.heap[g]? =some (.cells (dz7 j f o (dq4 N)++List.replicate (k+1) (Value.slice none 0 0)).toArray 50 (0,0)):=a;rw[J] at l;injection l with l;injection l with _ l;exact absurd l (by decide)),(fun i k n Z e=>by
    replace e:(if i=j then c.1.size else f i)=(if k=j then c.1.size else f k):=e;split at e
    ·split at e
     ·omega
     ·have:=(d k (by omega)).2.2.lt;omega
    ·split at e
     ·have:=(d i (by omega)).2.2.lt;omega
     ·exact u i k (by omega) (by omega) e),zb⟩
   case measure=>omega
def ey2(n m:Nat)(a b:List Rat):dyX n m a b 0=dq4 (n+m):=funext fun t=>if_neg (by omega)
def ey3{m:Nat}{a b:List Rat}:dzB (n+m) (dyX n m a b (n+m))=dzB (n+m) (dzJ n m a b):=bxH fun t c=>by
 have:=List.mem_range.1 c;rw[show dyX n m a b (n+m) t=dzJ n m a b t from if_pos this]
def dqV(n m:Nat)(a b:List Rat)(c:Nat):dyX n m a b c c=List.replicate (n+m) 0:=if_neg (by omega)
def dqM(w:World)(q:Rat)(L:Nat)(e:Ending)(w':World):Prop:=eS w q e w'∧RL L q
def dqW(a b:List Rat)(va vb:Value)(w:World)(ha:QsAt w va a)(bb:QsAt w vb b)(K:Nat)(a6:∀q∈a,RL K q)(a7:∀q∈b,RL K q)(h1:1<=K)(cc:a.length<=8)(cd:b.length<=8)(L:Nat)(hL:∀n,n<=14->kk K n<=L)(b7:L<=100000000000):
  Calls prog 24 #[va,vb] w (dqM w (Y5 a b) L):=by
 obtain⟨A,ca,rfl,b8⟩:=ha.form;obtain⟨A',cb,rfl,b9⟩:=bb.form;have b6:K<=L:=hL 0 (dC 14);obtain⟨W,y,l,R⟩:=bI w [.bool false,.slice none 0 0,.bool false,.slice none 0 0] 58;have cM:=R.g4;by_cases X:a.length=0
 ·have q1:((a.length:Int)==0)=true:=by rw[X];rfl
  have u:Hid (Y5 a b=0):=if_pos (.inl (bX X));clear X;go_enter func24,ntmps24;go_wp2_with fail;(try rw[y]);(try clear y);obtain⟨W8,F,E,H,ad,ap⟩:=R.mut4 l aE (.bool false) (.slice none 0 0) (.bool false) (.slice none 0 0) rfl rfl;rw[F];exact aM (v:= .agg #[.bool false,.slice none 0 0,.bool false,.slice none 0 0]) (by simp[results,results24,go_sem,E.k4]) rfl ⟨⟨_,rfl,by rw[u.out];exact NQ.zero _,H⟩,by rw[u.out];exact iG (by omega)⟩
 ·have q1:((a.length:Int)==0)=false:=by rw[beq_eq_false_iff_ne];omega
  by_cases Y:b.length=0
  ·have q2:((b.length:Int)==0)=true:=by rw[Y];rfl
   have u:Hid (Y5 a b=0):=if_pos (.inr (bX Y));clear Y;go_enter func24,ntmps24;go_wp2_with fail;(try rw[y]);(try clear y);obtain⟨W8,F,E,H,ad,ap⟩:=R.mut4 l aE (.bool false) (.slice none 0 0) (.bool false) (.slice none 0 0) rfl rfl;rw[F];exact aM (v:= .agg #[.bool false,.slice none 0 0,.bool false,.slice none 0 0]) (by simp[results,results24,go_sem,E.k4]) rfl ⟨⟨_,rfl,by rw[u.out];exact NQ.zero _,H⟩,by rw[u.out];exact iG (by omega)⟩
  ·have q2:((b.length:Int)==0)=false:=by rw[beq_eq_false_iff_ne];omega
   obtain⟨n,hn⟩:∃n,a.length=n+1:=⟨a.length-1,by omega⟩;obtain⟨m,hm⟩:∃m,b.length=m+1:=⟨b.length-1,by omega⟩;have am:Hid (wrap64 ((a.length:Int)-1)=(n:Int)):=by unfold Hid wrap64;omega
   have ak:Hid (wrap64 ((b.length:Int)-1)=(m:Int)):=by unfold Hid wrap64;omega
   have al:Hid ((a.length:Int)-1=(n:Int)):=by unfold Hid;omega
   have aj:Hid ((b.length:Int)-1=(m:Int)):=by unfold Hid;omega
   have V:Hid ((n:Int)+(m:Int)=((n+m:Nat):Int)):=by unfold Hid;omega
   have bo:Hid (wrap64 ((n+m:Nat):Int)=((n+m:Nat):Int)):=by unfold Hid wrap64;omega
   have ag:Hid (wrap64 ((n:Int)+(m:Int))=((n+m:Nat):Int)):=by unfold Hid wrap64;omega
   have cg:n<=7:=by omega
   have ce:m<=7:=by omega
   have u:Hid (Y5 a b=tG a b):=if_neg (fun h=>h.elim (fun e=>X (by rw[e];rfl)) (fun e=>Y (by rw[e];rfl)));have HN:=aB hn;have HM:=aB hm;clear X Y hn hm;by_cases a3:n+m=0
   ·have q3:(((n+m:Nat):Int)==0)=true:=by rw[a3];rfl
    have a2:Hid (Y5 a b=1):=by
     unfold Hid;rw[u.out];unfold tG;rw[HN.out,HM.out,show n+1-1=0 by omega,show m+1-1=0 by omega];rfl
    have hr:=fun W=>r7 1 W (by decide);unfold eS at hr;rw[show(((1:Nat):Int))=1 from rfl,show(((1:Nat):Rat))=1 from rfl] at hr;have bm:=am.out;have bj:=ak.out;have ai:=ag.out;have bk:=al.out;have bi:=aj.out;have bn:=V.out;clear am ak ag al aj V;generalize ((n+m:Nat):Int)=NM at *;go_enter func24,ntmps24;go_wp2_with fail;(try rw[y]);(try clear y);refine(hr _).mono ?_;rintro e1 w1 ⟨v1,rfl,a4,P⟩;obtain⟨s1,A1,S,c1,s2,A2,T,c2,rfl⟩:=a4.form;replace R:=R.be P;replace l:=aC l P;replace cM:=R.g4;go_wp2_with fail;obtain⟨W8,F,E,H,ad,ap⟩:=R.mut4 l aE (.bool s1) (.slice A1 S c1) (.bool s2) (.slice A2 T c2) rfl rfl;rw[F];exact aM (v:= .agg #[.bool s1,.slice A1 S c1,.bool s2,.slice A2 T c2]) (by simp[results,results24,go_sem,E.k4]) rfl ⟨⟨_,rfl,by rw[a2.out];exact a4.ke ad,H⟩,by rw[a2.out];exact bU rY (by omega)⟩
   ·have q3:(((n+m:Nat):Int)==0)=false:=by rw[beq_eq_false_iff_ne];omega
    have Q:=fun W=>eyR (n+m) W (by omega) (by omega);unfold dqC at Q;have aw:kk K (n+m)<=L:=hL (n+m) (by omega);have a8:∀i,i<n+m->∀q∈dyX n m a b (n+m) i,RL K q:=fun i hi q r=>by
     rw[show dyX n m a b (n+m) i=dzJ n m a b i from if_pos hi] at r;unfold dzJ at r;split at r
     ·exact exD a6 h1 q r
     ·exact exD a7 h1 q r
    have ab:=fun B U g c f x W h hc=>ey5 B U g (n+m) c f x (dyX n m a b (n+m)) W h hc (by omega) (by omega) (fun i _=>eyO ..) K a8 h1 (by omega);have bg:dyV (n+m) (dzB (n+m) (dyX n m a b (n+m)))=tG a b:=by
     rw[ey3,eyP HN.out HM.out];unfold tG;rw[HN.out,HM.out];rfl
    rw[bg] at ab;unfold dqY at ab;clear a8 bg a6 a7 a3;obtain⟨N,hN⟩:∃N,n+m=N:=⟨_,rfl⟩;rw[hN] at ag V bo q3 Q ab aw;have s:=aB hN;have bm:=am.out;have bj:=ak.out;have ai:=ag.out;have bk:=al.out;have bi:=aj.out;have bn:=V.out;clear hN;go_enter func24,ntmps24;go_wp2_with fail;clear bm bj ai bk bi bn;(try rw[y]);(try clear y);refine(Q _).mono ?_;rintro e1 w1 ⟨g,c1,f,x,rfl,bw,d,P⟩;have bu:=R.lt;have b1:=d.gB;replace R:=R.be P;replace l:=aC l P;obtain⟨B,hB⟩:∃B,W.1.size=B:=⟨_,rfl⟩;obtain⟨U,hU⟩:∃U,w1.1.size=U:=⟨_,rfl⟩;rw[hB] at d bu b1;rw[hU] at d;clear hB hU P Q cM;go_wp2_with fail;go_loopg [8] m (fun k v8 o=>∃i:Nat,Hid (i+k=m)∧v8= .int .i64 (i:Nat)∧MatG o B U g N f x (dyX n m a b (i))∧Bx o w.1.size [.bool false,.slice none 0 0,.bool false,.slice none 0 0] 58∧Below w.1.size w o)
    case atStart=>exact⟨0,by unfold Hid;omega,rfl,(by rw[ey2,s.out];exact d),R,l⟩
    case round=>
     clear d R l;obtain⟨i,C,rfl,d,R,l⟩:=hrel;generalize wr=wx at *;have p0:(0:Int)<=(i:Int):=by omega
     cases gk with
     |zero=>
      obtain rfl:m=i:=(show i=m from C.out).symm;go_wp2_with fail;go_loopg [10] n (fun k v8 o=>∃i:Nat,Hid (i+k=n)∧v8= .int .i64 (i:Nat)∧MatG o B U g N f x (dyX n m a b (m+i))∧Bx o w.1.size [.bool false,.slice none 0 0,.bool false,.slice none 0 0] 58∧Below w.1.size w o)
      case atStart=>exact⟨0,by unfold Hid;omega,rfl,d,R,l⟩
      case round=>
       clear d R l;obtain⟨i,C,rfl,d,R,l⟩:=hrel;generalize wr=wx at *;have p0:(0:Int)<=(i:Int):=by omega
       cases gk with
       |zero=>
        obtain rfl:n=i:=(show i=n from C.out).symm;have e9:m+n=N:=by have:=s.out;omega
        rw[e9] at d;have a5:MatG wx B U g N f x (dyX n m a b N):=d;clear e9;have bf:=ab _ _ _ _ _ _ _ a5 bw;have ai:IntKind.i64.wrap ((n:Int)+(m:Int))=(N:Int):=by have h:=V.out;rw[h,IntKind.wrap_i64];omega
        clear d ab;go_wp2_with fail;clear ai;refine bf.mono ?_;rintro e5 w5 ⟨v1,v2,v3,rfl,h3,a9,bc⟩;obtain⟨s5,A5,k5,c5,s6,A6,k6,c6,rfl⟩:=h3.form;have bp:Hid (RL L (tG a b)):=bU a9 aw;clear bf a5 a9 aw;replace R:=R.be bc;replace l:=aC l bc;obtain⟨w6,e6,ar,X6⟩:=bI w5 [.bool s5,.slice A5 k5 c5,.bool s6,.slice A6 k6 c6] 58;replace R:=R.be ar;replace h3:=h3.be ar;replace l:=aC l ar;have cM:=aa R.g4 X6.k4;go_wp2_with fail;(try rw[e6]);(try clear e6);obtain⟨W8,F,E,H,ad,ap⟩:=R.mut4 l aE (.bool s5) (.slice A5 k5 c5) (.bool s6) (.slice A6 k6 c6) rfl rfl;rw[F];exact aM (v:= .agg #[.bool s5,.slice A5 k5 c5,.bool s6,.slice A6 k6 c6]) (by simp[results,results24,go_sem,E.k4]) rfl ⟨⟨_,rfl,by rw[u.out];exact h3.ke ad,H⟩,by rw[u.out];exact bp.out⟩
       |succ S=>
        have bh:i<n:=by have:=C.out;omega
        have p1:(i:Int)<(n:Int):=by omega
        have p:m+i<N:=by rw[<-s.out];omega
        have af:dzJ n m a b (m+i)=dyY N i b m (m+1):=by
         unfold dzJ;rw[if_neg (by omega),show m+i-m=i by omega,s.out]
        have O:MatG wx B U g N f x (dyT (dyX n m a b (m+i)) (m+i) (dyY N i b m 0)):=by
         rw[exA,show List.replicate N (0:Rat)=dyX n m a b (m+i) (m+i) by rw[dqV,s.out],dqB];exact d
        have ah:Hid (dyT (dyX n m a b (m+i)) (m+i) (dyY N i b m (m+1))=dyX n m a b (m+i+1)):=by unfold Hid;rw[<-af,exE]
        obtain⟨z,hz⟩:∃z,m+i=z:=⟨_,rfl⟩;rw[hz] at p O ah;have HZ:=aB hz;clear hz;clear d af;go_wp2_with fail;go_loopg [11] (m+1) (fun k v9 o=>∃j:Nat,Hid (j+k=m+1)∧v9= .int .i64 (j:Nat)∧MatG o B U g N f x (dyT (dyX n m a b z) z (dyY N i b m j))∧Bx o w.1.size [.bool false,.slice none 0 0,.bool false,.slice none 0 0] 58∧Below w.1.size w o)
        case atStart=>exact⟨0,by unfold Hid;omega,rfl,O,R,l⟩
        case round=>
         clear O R l;obtain⟨j,D,rfl,d,R,l⟩:=hrel;generalize wr=wz at *;have p2:(0:Int)<=(j:Int):=by omega
         cases gk with
         |zero=>
          have I:j=m+1:=D.out;have p3:¬(j:Int)<=(m:Int):=by omega
          rw[I,ah.out] at d;clear I;go_wp2;go_roundg S
          case rel=>exact⟨i+1,by have:=C.out;unfold Hid;omega,by go_num,by rw[<-az7,HZ.out];exact d,R,l⟩
          case measure=>omega
         |succ T=>
          have I:j<=m:=by have:=D.out;omega
          have p3:(j:Int)<=(m:Int):=by omega
          obtain⟨t,ht⟩:∃t,i+j=t:=⟨_,rfl⟩;obtain⟨e,Z⟩:∃e,m-j=e:=⟨_,rfl⟩;have p4:(i:Int)+(j:Int)=(t:Int):=by omega
          have p5:(m:Int)-(j:Int)=(e:Int):=by omega
          have ax:t<N:=by rw[<-s.out];omega
          have p6:(t:Int)<(N:Int):=by omega
          have p7:(0:Int)<=(t:Int):=by omega
          have p8:(0:Int)<=(e:Int):=by omega
          have ac:e<b.length:=by have:=HM.out;omega
          have p9:(e:Int)<(b.length:Int):=by omega
          have an:Hid (IntKind.i64.wrap ((i:Int)+(j:Int))=(t:Int)):=by unfold Hid;rw[IntKind.wrap_i64];omega
          have ao:Hid (IntKind.i64.wrap ((m:Int)-(j:Int))=(e:Int)):=by unfold Hid;rw[IntKind.wrap_i64];omega
          have b4:(m:Int)+(i:Int)=(z:Int):=by have:=HZ.out;omega
          have ch:(z:Int)<(N:Int):=by omega
          have ci:(0:Int)<=(z:Int):=by omega
          have bq:Hid (IntKind.i64.wrap ((m:Int)+(i:Int))=(z:Int)):=by unfold Hid;rw[IntKind.wrap_i64];omega
          have ay:=(bb.be l).at_ (show b[e]? =some (cf b e) by rw[fZ ac];exact aR ac);obtain⟨ba,s1,A1,b2,br,s2,A2,b3,bs,hA,Q,bt,aq⟩:=ay;have au:=d.cell p;rw[dz8,dq8] at au;have J:t<(dyT (dyX n m a b z) z (dyY N i b m j) z).length:=by rw[dz8,dq8];exact ax
          have av:∃q,(dyT (dyX n m a b z) z (dyY N i b m j) z)[t]? =some q:=⟨_,aR J⟩;obtain⟨q,r⟩:=av;obtain⟨s3,A3,k3,c3,s4,A4,k4,c4,bv, -⟩:=d.at_ p r;have bz:=(d.row z p).2.2.2.free;obtain⟨G,M⟩:=d.stored p J aq;have ae:(dyY N i b m j).set t (cf b e)=dyY N i b m (j+1):=by rw[<-ht,<-Z];exact exB (by omega)
          rw[dz8,ae,dqD] at G;have bx:=(d.row z p).1;have zb:=(jD l M.2 (by omega)).drew;have zR:Bx _ w.1.size [.bool false,.slice none 0 0,.bool false,.slice none 0 0] 58:=(show Bx _ w.1.size [.bool false,.slice none 0 0,.bool false,.slice none 0 0] 58 from(M.2.2.1 w.1.size (by omega)).trans R).drew;have zG:=G.be (aG _ _).drew;clear G M ae r ht Z d J;clear p4 p5 b4;have az:=an.out;have a1:=ao.out;have b5:=bq.out;go_upto_region 20 with fail;go_region
          all_goals (
           clear az a1 b5;go_wp2;go_roundg T
           case rel=>exact⟨j+1,by have:=D.out;unfold Hid;omega,by go_num,zG,zR,zb⟩
           case measure=>omega)
     |succ S=>
      have bh:i<m:=by have:=C.out;omega
      have p1:(i:Int)<(m:Int):=by omega
      have p:i<N:=by rw[<-s.out];omega
      have af:dzJ n m a b (i)=dyY N i a n (n+1):=by
       unfold dzJ;rw[if_pos bh,s.out]
      have O:MatG wx B U g N f x (dyT (dyX n m a b (i)) (i) (dyY N i a n 0)):=by
       rw[exA,show List.replicate N (0:Rat)=dyX n m a b (i) (i) by rw[dqV,s.out],dqB];exact d
      have ah:Hid (dyT (dyX n m a b (i)) (i) (dyY N i a n (n+1))=dyX n m a b (i+1)):=by unfold Hid;rw[<-af,exE]
      clear d af;go_wp2_with fail;go_loopg [9] (n+1) (fun k v9 o=>∃j:Nat,Hid (j+k=n+1)∧v9= .int .i64 (j:Nat)∧MatG o B U g N f x (dyT (dyX n m a b (i)) (i) (dyY N i a n j))∧Bx o w.1.size [.bool false,.slice none 0 0,.bool false,.slice none 0 0] 58∧Below w.1.size w o)
      case atStart=>exact⟨0,by unfold Hid;omega,rfl,O,R,l⟩
      case round=>
       clear O R l;obtain⟨j,D,rfl,d,R,l⟩:=hrel;generalize wr=wz at *;have p2:(0:Int)<=(j:Int):=by omega
       cases gk with
       |zero=>
        have I:j=n+1:=D.out;have p3:¬(j:Int)<=(n:Int):=by omega
        rw[I,ah.out] at d;clear I;go_wp2;go_roundg S
        case rel=>exact⟨i+1,by have:=C.out;unfold Hid;omega,by go_num,d,R,l⟩
        case measure=>omega
       |succ T=>
        have I:j<=n:=by have:=D.out;omega
        have p3:(j:Int)<=(n:Int):=by omega
        obtain⟨t,ht⟩:∃t,i+j=t:=⟨_,rfl⟩;obtain⟨e,Z⟩:∃e,n-j=e:=⟨_,rfl⟩;have p4:(i:Int)+(j:Int)=(t:Int):=by omega
        have p5:(n:Int)-(j:Int)=(e:Int):=by omega
        have ax:t<N:=by rw[<-s.out];omega
        have p6:(t:Int)<(N:Int):=by omega
        have p7:(0:Int)<=(t:Int):=by omega
        have p8:(0:Int)<=(e:Int):=by omega
        have ac:e<a.length:=by have:=HN.out;omega
        have p9:(e:Int)<(a.length:Int):=by omega
        have an:Hid (IntKind.i64.wrap ((i:Int)+(j:Int))=(t:Int)):=by unfold Hid;rw[IntKind.wrap_i64];omega
        have ao:Hid (IntKind.i64.wrap ((n:Int)-(j:Int))=(e:Int)):=by unfold Hid;rw[IntKind.wrap_i64];omega
        have ay:=(ha.be l).at_ (show a[e]? =some (cf a e) by rw[fZ ac];exact aR ac);obtain⟨ba,s1,A1,b2,br,s2,A2,b3,bs,hA,Q,bt,aq⟩:=ay;have au:=d.cell p;rw[dz8,dq8] at au;have J:t<(dyT (dyX n m a b (i)) (i) (dyY N i a n j) (i)).length:=by rw[dz8,dq8];exact ax
        have av:∃q,(dyT (dyX n m a b (i)) (i) (dyY N i a n j) (i))[t]? =some q:=⟨_,aR J⟩;obtain⟨q,r⟩:=av;obtain⟨s3,A3,k3,c3,s4,A4,k4,c4,bv, -⟩:=d.at_ p r;have bz:=(d.row (i) p).2.2.2.free;obtain⟨G,M⟩:=d.stored p J aq;have ae:(dyY N i a n j).set t (cf a e)=dyY N i a n (j+1):=by rw[<-ht,<-Z];exact exB (by omega)
        rw[dz8,ae,dqD] at G;have bx:=(d.row (i) p).1;have zb:=(jD l M.2 (by omega)).drew;have zR:Bx _ w.1.size [.bool false,.slice none 0 0,.bool false,.slice none 0 0] 58:=(show Bx _ w.1.size [.bool false,.slice none 0 0,.bool false,.slice none 0 0] 58 from(M.2.2.1 w.1.size (by omega)).trans R).drew;have zG:=G.be (aG _ _).drew;clear G M ae r ht Z d J;clear p4 p5;have az:=an.out;have a1:=ao.out;go_upto_region 13 with fail;go_region
        all_goals (
         clear az a1;go_wp2;go_roundg T
         case rel=>exact⟨j+1,by have:=D.out;unfold Hid;omega,by go_num,zG,zR,zb⟩
         case measure=>omega)
def dqR(w:World)(a b:List (List UInt8))(e:Ending)(w':World):Prop:=∃v u,e= .returned (.tuple #[v,u,.bool (vl a&&vl b)])∧QsAt w' v (oP a)∧QsAt w' u (oP b)∧Below w.1.size w w'
section
variable (a b:List (List UInt8))(va vb:Value)(w:World)(ha:StrsAt w va a)(hb':StrsAt w vb b)(hla:a.length<=1000)(hlb:b.length<=1000)(hca:∀l∈a,l.length<=1073741824)(hcb:∀l∈b,l.length<=1073741824)(K:Nat)(hKa:∀q∈aU a,RL K q)(hKb:∀q∈aU b,RL K q)(hK:K<=1048576)
include ha hb' hla hlb hca hcb hKa hKb hK
def eyS:Calls prog 22 #[va,vb] w (dqR w a b):=by
 obtain⟨A,c,rfl,p⟩:=ha.form;obtain⟨k,m,rfl,r⟩:=hb'.form;go_enter func22,ntmps22;go_wp2_with fail;refine(VQ a _ _ ha (by omega) hca (fun q f=>bU (hKa q f) (by omega))).mono ?_;rintro n s ⟨i,rfl,e,d⟩;go_wp2_with fail;refine(VQ b _ _ (hb'.be d) (by omega) hcb (fun q f=>bU (hKb q f) (by omega))).mono ?_;rintro o t ⟨j,rfl,g,h⟩;replace e:=e.be h;replace d:=aC d h;unfold dqR;cases hva:vl a with
 |false=>
  go_wp2_with fail;exact aM (v:= .tuple #[i,j,.bool false]) (by simp[results,results22,go_sem]) rfl ⟨_,_,by rw[hva];rfl,e,g,d⟩
 |true=>
  go_wp2_with fail;exact aM (v:= .tuple #[i,j,.bool (vl b)]) (by simp[results,results22,go_sem]) rfl ⟨_,_,by rw[hva];rfl,e,g,d⟩
end
abbrev zR:List Value:=[.bool false,.slice none 0 0,.bool false,.slice none 0 0]
def QVar(w:World)(b:Nat)(q:Rat):Prop:=∃s A l c s' A' l' c',Bx w b [.bool s,.slice A l c,.bool s',.slice A' l' c'] 58∧NQ w (.agg #[.bool s,.slice A l c,.bool s',.slice A' l' c']) q
section
variable {W0 w:World}{g:Nat}{q:Rat}{s s':Bool}{A A':Option Addr}{l c l' c':Nat}
def QVar.be(h:QVar w g q)(a:Below w.1.size w w'):QVar w' g q:=by
 obtain⟨s,A,l,c,s',A',l',c',b,d⟩:=h;exact⟨s,A,l,c,s',A',l',c',b.be a,d.be a⟩
def QVar.step(h:QVar w g q)(a:r6 b w w')(f:g≠b):QVar w' g q:=by
 obtain⟨s,A,l,c,s',A',l',c',d,e⟩:=h;exact⟨s,A,l,c,s',A',l',c',(a.2.2.1 g f).trans d,e.ke a.1⟩
def QVar.up{b:World}[u:Up w b](h:QVar w g q):QVar b g q:=h.be u.out
def KZ(h:NQ w (.agg #[.bool s,.slice A l c,.bool s',.slice A' l' c']) q)(a:Below W0.1.size W0 w):QVar (w.alloc (.cells #[.bool s,.slice A l c,.bool s',.slice A' l' c'] 58)) w.1.size q∧Below W0.1.size W0 (w.alloc (.cells #[.bool s,.slice A l c,.bool s',.slice A' l' c'] 58)):=
 ⟨⟨_,_,_,_,_,_,_,_,Bx.new _ _ _,h.be ((aG _ _).alloc aE _)⟩,a.alloc a.size _⟩
def L0(D:Bx w g zR 58)(h:NQ w (.agg #[.bool s,.slice A l c,.bool s',.slice A' l' c']) q)(b:Below W0.1.size W0 w)(i:W0.1.size<=g):
  QVar ((((w.setCell ⟨g,0,none⟩ (.bool s)).setCell ⟨g,1,none⟩ (.slice A l c)).setCell ⟨g,2,none⟩ (.bool s')).setCell ⟨g,3,none⟩ (.slice A' l' c')) g q∧Below W0.1.size W0 ((((w.setCell ⟨g,0,none⟩ (.bool s)).setCell ⟨g,1,none⟩ (.slice A l c)).setCell ⟨g,2,none⟩ (.bool s')).setCell ⟨g,3,none⟩ (.slice A' l' c')):=by
 obtain⟨j,e,a,d,f, -⟩:=D.mut4 b i (.bool s) (.slice A l c) (.bool s') (.slice A' l' c') rfl rfl;rw[e];exact⟨⟨_,_,_,_,_,_,_,_,a,h.ke f⟩,d⟩
end
