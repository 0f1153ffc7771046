/- Laws. -/
import Derived.Test.YtbmafhclcdcepaaGreatDoorP11
set_option linter.all false
set_option maxHeartbeats 8000000
set_option maxRecDepth 99999
namespace Go.Proofs.YtbmafhclcdcepaaGreatDoor
open Go.RowKit Sos Tryz
def IP(w:World)(o:Option Rat)(e:Ending)(w':World):Prop:=∃v,e= .returned (.tuple #[v,.bool o.isSome])∧RatAt w' v (o.getD 0)∧Below w.heap.size w w'
def TW{l:List UInt8}(h:iA l=none):bD l=none:=by unfold bD;rw[h]
def TX{l n:List UInt8}{a:Bool}(h:iA l=some (a,n,[])):bD l=some ((fO a (aO n):Int):Rat):=by unfold bD;rw[h];simp
def IQ{l n d:List UInt8}{a:Bool}(h:iA l=some (a,n,d))(b:d≠[]):bD l=if Nat.gcd (aO n) (aO d)=1 then some (mkRat (fO a (aO n)) (aO d)) else none:=by
 unfold bD;rw[h];simp[b]
def IR{x:Int}{n d:Nat}(h:x.natAbs=n)(b:Nat.gcd n d=1)(a:d≠0)(f:d≠1):(mkRat x d).num=x∧bS (mkRat x d)=d:=by
 have c:(mkRat x d).num=x:=by rw[Rat.num_mkRat,if_neg a,h,Nat.gcd_comm,b];simp
 have e:(mkRat x d).den=d:=by rw[Rat.den_mkRat,if_neg a,h,Nat.gcd_comm,b];simp
 exact⟨c,by unfold bS;rw[e,if_neg f]⟩
def TY{l n d:List UInt8}{a:Bool}(h:l=jM a n d):n.length<=l.length∧d.length<=l.length:=by
 subst h;unfold jM;by_cases e:d=[]<;>simp[e]<;>omega
def wU(l:List UInt8)(w:World)(hG:Glob w)(hl:l.length<=1073741824):
  Calls prog 35 #[.string ⟨l.toArray⟩] w (IP w (bD l)):=by
 have ar:=fun W=>U9 l W (by omega);obtain⟨W,eW,a,R⟩:=bI w [.bool false,.slice none 0 0,.bool false,.slice none 0 0] 58;have k:=R.g4;go_enter func35,ntmps35;go_wp2_with fail;(try rw[eW]);clear eW;refine(ar _).mono ?_;rintro e1 s ⟨ac,n,d,ok,rfl,al,ak,aq⟩;clear ar;replace R:=R.be aq;replace k:=R.g4;replace a:=aC a aq;have au:∀b:Obj,(s.alloc b).cell? ⟨w.heap.size,0,none⟩=some (.bool false):=fun b=>(R.alloc b).cell 0 rfl;have ay:∀b:Obj,(s.alloc b).frozen? ⟨w.heap.size,0,none⟩=false:=fun b=>(R.alloc b).free 0;have av:∀b:Obj,(s.alloc b).cell? ⟨w.heap.size,1,none⟩=some (.slice none 0 0):=fun b=>(R.alloc b).cell 1 rfl;have az:∀b:Obj,(s.alloc b).frozen? ⟨w.heap.size,1,none⟩=false:=fun b=>(R.alloc b).free 1;have aw:∀b:Obj,(s.alloc b).cell? ⟨w.heap.size,2,none⟩=some (.bool false):=fun b=>(R.alloc b).cell 2 rfl;have a0:∀b:Obj,(s.alloc b).frozen? ⟨w.heap.size,2,none⟩=false:=fun b=>(R.alloc b).free 2;have ax:∀b:Obj,(s.alloc b).cell? ⟨w.heap.size,3,none⟩=some (.slice none 0 0):=fun b=>(R.alloc b).cell 3 rfl;have a1:∀b:Obj,(s.alloc b).frozen? ⟨w.heap.size,3,none⟩=false:=fun b=>(R.alloc b).free 3;cases ok with
 |false=>
  have o:=aB (TW (ak rfl));clear al ak;go_wp2_with fail;have z:=R.lt;have A:=a.size;obtain⟨U0,r,m,F⟩:=bI s [.bool ac,.string ⟨n.toArray⟩,.string ⟨d.toArray⟩] 126;replace R:=R.be m;replace c:=Keep.be m;replace a:=aC a m;obtain⟨W6,p,R,a,c,g⟩:=R.put4 a (by omega) (.bool false) (.slice none 0 0) (.bool false) (.slice none 0 0) rfl rfl;replace F:=g F (by omega);rw[r,p];clear r p;replace k:=aa R.k4 F.k3;exact aM (v:= .tuple #[.agg #[.bool false,.slice none 0 0,.bool false,.slice none 0 0],.bool false]) (by simp[results,results35,go_sem,R.k4]) rfl ⟨_,by rw[o.out];rfl,by rw[o.out];exact RatAt.of (IntAt.zero _) (IntAt.zero _) rfl rfl,a⟩
 |true=>
  have hs:=al rfl;obtain⟨hp,hj⟩:=I1 hs;obtain⟨ba,a9⟩:=TY hj;have bc:=oJ hp.n_digs;have bb:=oJ hp.d_digs;have ad:=fun W=>FE ⟨n.toArray⟩ W hp.n_digs (by simp[ByteArray.size];omega);have V:=fun W=>FE ⟨d.toArray⟩ W hp.d_digs (by simp[ByteArray.size];omega);simp only[] at ad V;have N:=aB hs;have t:=aB hp;clear al ak hs hp hj;go_wp2_with fail;have z:=R.lt;have A:=a.size;obtain⟨w2,ap,m,F⟩:=bI s [.bool ac,.string ⟨n.toArray⟩,.string ⟨d.toArray⟩] 126;replace R:=R.be m;replace c:=Keep.be m;replace a:=aC a m;rw[ap];clear ap;replace k:=aa R.g4 F.k3;refine(ad _).mono ?_;rintro e3 q ⟨v3,rfl,f,ah⟩;obtain⟨s3,L,Y,P,rfl⟩:=f.form;replace R:=R.be ah;replace F:=F.be ah;replace k:=aa R.g4 F.k3;replace a:=aC a ah;have au:∀b:Obj,(q.alloc b).cell? ⟨w.heap.size,0,none⟩=some (.bool false):=fun b=>(R.alloc b).cell 0 rfl;have ay:∀b:Obj,(q.alloc b).frozen? ⟨w.heap.size,0,none⟩=false:=fun b=>(R.alloc b).free 0;have av:∀b:Obj,(q.alloc b).cell? ⟨w.heap.size,1,none⟩=some (.slice none 0 0):=fun b=>(R.alloc b).cell 1 rfl;have az:∀b:Obj,(q.alloc b).frozen? ⟨w.heap.size,1,none⟩=false:=fun b=>(R.alloc b).free 1;have aw:∀b:Obj,(q.alloc b).cell? ⟨w.heap.size,2,none⟩=some (.bool false):=fun b=>(R.alloc b).cell 2 rfl;have a0:∀b:Obj,(q.alloc b).frozen? ⟨w.heap.size,2,none⟩=false:=fun b=>(R.alloc b).free 2;have ax:∀b:Obj,(q.alloc b).cell? ⟨w.heap.size,3,none⟩=some (.slice none 0 0):=fun b=>(R.alloc b).cell 3 rfl;have a1:∀b:Obj,(q.alloc b).frozen? ⟨w.heap.size,3,none⟩=false:=fun b=>(R.alloc b).free 3;have a3:∀b:Obj,(q.alloc b).cell? ⟨s.heap.size,0,none⟩=some (.bool ac):=fun b=>(F.alloc b).cell 0 rfl;have a6:∀b:Obj,(q.alloc b).frozen? ⟨s.heap.size,0,none⟩=false:=fun b=>(F.alloc b).free 0;have a4:∀b:Obj,(q.alloc b).cell? ⟨s.heap.size,1,none⟩=some (.string ⟨n.toArray⟩):=fun b=>(F.alloc b).cell 1 rfl;have a7:∀b:Obj,(q.alloc b).frozen? ⟨s.heap.size,1,none⟩=false:=fun b=>(F.alloc b).free 1;have a5:∀b:Obj,(q.alloc b).cell? ⟨s.heap.size,2,none⟩=some (.string ⟨d.toArray⟩):=fun b=>(F.alloc b).cell 2 rfl;have a8:∀b:Obj,(q.alloc b).frozen? ⟨s.heap.size,2,none⟩=false:=fun b=>(F.alloc b).free 2;have U:(fO ac (aO n)).natAbs=aO n:=rU _ _;have S:∀W v,d=[]->IntAt W v (fO ac (aO n))->bD l=some ((fO ac (aO n):Int):Rat):=fun _ _ h _=>TX (by rw[<-h];exact N.out);cases ac with
  |false=>
   have f:IntAt q _ (fO false (aO n)):=f;generalize hx:fO false (aO n)=x at *;by_cases y:d=[]
   ·have q1:(d==[])=true:=by rw[y];rfl
    have o:=aB (S _ _ y f);clear S V ad N t hx;go_wp2_with fail;have z:=R.lt;have H:=F.lt;have A:=a.size;obtain⟨U0,r,m,X⟩:=bI q [.bool s3,.slice L Y P,.bool false,.slice none 0 0] 58;replace R:=R.be m;replace F:=F.be m;replace c:=Keep.be m;replace a:=aC a m;replace f:=f.ke c;obtain⟨W6,p,R,a,c,g⟩:=R.put4 a (by omega) (.bool s3) (.slice L Y P) (.bool false) (.slice none 0 0) rfl rfl;replace F:=g F (by omega);replace X:=g X (by omega);replace f:=f.ke c;rw[r,p];clear r p;replace k:=aa R.k4 (aa F.k3 X.k4);exact aM (v:= .tuple #[.agg #[.bool s3,.slice L Y P,.bool false,.slice none 0 0],.bool true]) (by simp[results,results35,go_sem,R.k4]) rfl ⟨_,by rw[o.out];rfl,by rw[o.out];exact RatAt.of f (IntAt.zero _) rfl rfl,a⟩
   ·have q1:(d==[])=false:=by simpa using y
    have j:=IQ N.out y;have ai:=wP t.out.d_digs y t.out.d_head;have aj:aO d≠1:=fun e=>t.out.d_one (by rw[<-Q9 t.out.d_digs y (.inr t.out.d_head),e,decDigits_one]);rw[hx] at j;have I:=aB j;clear S ad N t j hx;go_wp2_with fail;have z:=R.lt;have H:=F.lt;have A:=a.size;obtain⟨w4,K,m,X⟩:=bI q [.bool s3,.slice L Y P,.bool false,.slice none 0 0] 58;replace R:=R.be m;replace F:=F.be m;replace c:=Keep.be m;replace a:=aC a m;replace f:=f.ke c;rw[K];clear K;replace k:=aa R.g4 (aa F.k3 X.g4);refine(V _).mono ?_;rintro e5 w5 ⟨v5,rfl,i,C⟩;obtain⟨s5,M,Z,Q,rfl⟩:=i.form;replace R:=R.be C;replace F:=F.be C;replace X:=X.be C;replace k:=aa R.g4 (aa F.k3 X.g4);replace c:=Keep.be C;replace f:=f.ke c;replace a:=aC a C;have J:=fun W v u hG h1 h2=>qF x ((aO d:Nat):Int) v u W hG h1 h2 1073741824 (by rw[U];omega) (by rw[dD];omega) (by decide);rw[U,dD] at J;unfold dW at J;clear V;go_wp2_with fail;have z:=R.lt;have H:=F.lt;have O:=X.lt;have A:=a.size;obtain⟨U0,r,X,a,c,g⟩:=X.put1 a (by omega) 2 (.bool s5) rfl;replace R:=g R (by omega);replace F:=g F (by omega);replace f:=f.ke c;replace i:=i.ke c;obtain⟨w6,ae,X,a,c,g⟩:=X.put1 a (by omega) 3 (.slice M Z Q) rfl;replace R:=g R (by omega);replace F:=g F (by omega);replace f:=f.ke c;replace i:=i.ke c;rw[r,ae];clear r ae;replace k:=aa R.g4 (aa F.k3 X.g4);refine(J _ _ _ (hG.be a) f i).mono ?_;rintro e8 w8 ⟨v8,rfl,h8,D⟩;obtain⟨s8,A8,k8,c8,rfl⟩:=h8.form;replace R:=R.be D;replace F:=F.be D;replace X:=X.be D;replace k:=aa R.g4 (aa F.k3 X.g4);replace c:=Keep.be D;replace f:=f.ke c;replace i:=i.ke c;replace a:=aC a D;clear J;have a2:nl (Nat.gcd (aO n) (aO d))<=1073741824:=by
     refine aH (cK (Nat.le_of_dvd (by omega) (Nat.gcd_dvd_right _ _))) (by omega)
    go_wp2_with fail;refine(n6 _ _ _ h8 (by rw[dD];omega)).mono ?_;rintro e9 w9 ⟨rfl,E⟩;replace R:=R.be E;replace F:=F.be E;replace X:=X.be E;replace k:=aa R.g4 (aa F.k3 X.g4);replace c:=Keep.be E;replace f:=f.ke c;replace i:=i.ke c;replace a:=aC a E;by_cases T:Nat.gcd (aO n) (aO d)=1
    ·have G:decide (((Nat.gcd (aO n) (aO d):Nat):Int)=1)=true:=by rw[iQ];omega
     obtain⟨am,an⟩:=IR U T ai aj;have j:=I.out;rw[if_pos T] at j;have o:=aB j;rw[G];clear G j I;go_wp2_with fail;have z:=R.lt;have H:=F.lt;have O:=X.lt;have A:=a.size;obtain⟨W6,p,R,a,c,g⟩:=R.put4 a (by omega) (.bool s3) (.slice L Y P) (.bool s5) (.slice M Z Q) rfl rfl;replace F:=g F (by omega);replace X:=g X (by omega);replace f:=f.ke c;replace i:=i.ke c;rw[p];clear p;replace k:=aa R.k4 (aa F.k3 X.k4);exact aM (v:= .tuple #[.agg #[.bool s3,.slice L Y P,.bool s5,.slice M Z Q],.bool true]) (by simp[results,results35,go_sem,R.k4]) rfl ⟨_,by rw[o.out];rfl,by rw[o.out];exact RatAt.of f i am an,a⟩
    ·have G:decide (((Nat.gcd (aO n) (aO d):Nat):Int)=1)=false:=by rw[jA];omega
     have j:=I.out;rw[if_neg T] at j;have o:=aB j;rw[G];clear G j I;go_wp2_with fail;have z:=R.lt;have H:=F.lt;have O:=X.lt;have A:=a.size;obtain⟨W6,p,R,a,c,g⟩:=R.put4 a (by omega) (.bool false) (.slice none 0 0) (.bool false) (.slice none 0 0) rfl rfl;replace F:=g F (by omega);replace X:=g X (by omega);rw[p];clear p;replace k:=aa R.k4 (aa F.k3 X.k4);exact aM (v:= .tuple #[.agg #[.bool false,.slice none 0 0,.bool false,.slice none 0 0],.bool false]) (by simp[results,results35,go_sem,R.k4]) rfl ⟨_,by rw[o.out];rfl,by rw[o.out];exact RatAt.of (IntAt.zero _) (IntAt.zero _) rfl rfl,a⟩
  |true=>
   have f:IntAt q _ ((aO n:Nat):Int):=f;have ag:fO true (aO n)= -((aO n:Nat):Int):=rfl;rw[ag] at S U;go_wp2_with fail;have z:=R.lt;have H:=F.lt;have A:=a.size;obtain⟨w4,K,m,X⟩:=bI q [.bool s3,.slice L Y P,.bool false,.slice none 0 0] 58;replace R:=R.be m;replace F:=F.be m;replace c:=Keep.be m;replace a:=aC a m;replace f:=f.ke c;rw[K];clear K;replace k:=aa R.g4 (aa F.k3 X.g4);refine(sQ _ _ _ f (by simp;omega)).mono ?_;rintro e7 w7 ⟨v7,rfl,B,af⟩;obtain⟨s7,A7,k7,c7,rfl⟩:=B.form;replace R:=R.be af;replace F:=F.be af;replace X:=X.be af;replace k:=aa R.g4 (aa F.k3 X.g4);replace a:=aC a af;generalize hx: -((aO n:Nat):Int)=x at *;by_cases y:d=[]
   ·have q1:(d==[])=true:=by rw[y];rfl
    have o:=aB (S _ _ y B);clear S V ad N t hx ag;go_wp2_with fail;have z:=R.lt;have H:=F.lt;have O:=X.lt;have A:=a.size;obtain⟨U0,r,X,a,c,g⟩:=X.put1 a (by omega) 0 (.bool s7) rfl;replace R:=g R (by omega);replace F:=g F (by omega);replace B:=B.ke c;obtain⟨U1,ao,X,a,c,g⟩:=X.put1 a (by omega) 1 (.slice A7 k7 c7) rfl;replace R:=g R (by omega);replace F:=g F (by omega);replace B:=B.ke c;obtain⟨W6,p,R,a,c,g⟩:=R.put4 a (by omega) (.bool s7) (.slice A7 k7 c7) (.bool false) (.slice none 0 0) rfl rfl;replace F:=g F (by omega);replace X:=g X (by omega);replace B:=B.ke c;rw[r,ao,p];clear r ao p;replace k:=aa R.k4 (aa F.k3 X.k4);exact aM (v:= .tuple #[.agg #[.bool s7,.slice A7 k7 c7,.bool false,.slice none 0 0],.bool true]) (by simp[results,results35,go_sem,R.k4]) rfl ⟨_,by rw[o.out];rfl,by rw[o.out];exact RatAt.of B (IntAt.zero _) rfl rfl,a⟩
   ·have q1:(d==[])=false:=by simpa using y
    have j:=IQ N.out y;rw[ag] at j;have ai:=wP t.out.d_digs y t.out.d_head;have aj:aO d≠1:=fun e=>t.out.d_one (by rw[<-Q9 t.out.d_digs y (.inr t.out.d_head),e,decDigits_one]);have I:=aB j;clear S ad N t j hx ag f;go_wp2_with fail;have f:=B;clear B;have z:=R.lt;have H:=F.lt;have O:=X.lt;have A:=a.size;obtain⟨U0,r,X,a,c,g⟩:=X.put1 a (by omega) 0 (.bool s7) rfl;replace R:=g R (by omega);replace F:=g F (by omega);replace f:=f.ke c;obtain⟨w4,K,X,a,c,g⟩:=X.put1 a (by omega) 1 (.slice A7 k7 c7) rfl;replace R:=g R (by omega);replace F:=g F (by omega);replace f:=f.ke c;rw[r,K];clear r K;replace k:=aa R.g4 (aa F.k3 X.g4);refine(V _).mono ?_;rintro e5 w5 ⟨v5,rfl,i,C⟩;obtain⟨s5,M,Z,Q,rfl⟩:=i.form;replace R:=R.be C;replace F:=F.be C;replace X:=X.be C;replace k:=aa R.g4 (aa F.k3 X.g4);replace c:=Keep.be C;replace f:=f.ke c;replace a:=aC a C;have J:=fun W v u hG h1 h2=>qF x ((aO d:Nat):Int) v u W hG h1 h2 1073741824 (by rw[U];omega) (by rw[dD];omega) (by decide);rw[U,dD] at J;unfold dW at J;clear V;go_wp2_with fail;have z:=R.lt;have H:=F.lt;have O:=X.lt;have A:=a.size;obtain⟨U0,r,X,a,c,g⟩:=X.put1 a (by omega) 2 (.bool s5) rfl;replace R:=g R (by omega);replace F:=g F (by omega);replace f:=f.ke c;replace i:=i.ke c;obtain⟨w6,ae,X,a,c,g⟩:=X.put1 a (by omega) 3 (.slice M Z Q) rfl;replace R:=g R (by omega);replace F:=g F (by omega);replace f:=f.ke c;replace i:=i.ke c;rw[r,ae];clear r ae;replace k:=aa R.g4 (aa F.k3 X.g4);refine(J _ _ _ (hG.be a) f i).mono ?_;rintro e8 w8 ⟨v8,rfl,h8,D⟩;obtain⟨s8,A8,k8,c8,rfl⟩:=h8.form;replace R:=R.be D;replace F:=F.be D;replace X:=X.be D;replace k:=aa R.g4 (aa F.k3 X.g4);replace c:=Keep.be D;replace f:=f.ke c;replace i:=i.ke c;replace a:=aC a D;clear J;have a2:nl (Nat.gcd (aO n) (aO d))<=1073741824:=by
     refine aH (cK (Nat.le_of_dvd (by omega) (Nat.gcd_dvd_right _ _))) (by omega)
    go_wp2_with fail;refine(n6 _ _ _ h8 (by rw[dD];omega)).mono ?_;rintro e9 w9 ⟨rfl,E⟩;replace R:=R.be E;replace F:=F.be E;replace X:=X.be E;replace k:=aa R.g4 (aa F.k3 X.g4);replace c:=Keep.be E;replace f:=f.ke c;replace i:=i.ke c;replace a:=aC a E;by_cases T:Nat.gcd (aO n) (aO d)=1
    ·have G:decide (((Nat.gcd (aO n) (aO d):Nat):Int)=1)=true:=by rw[iQ];omega
     obtain⟨am,an⟩:=IR U T ai aj;have j:=I.out;rw[if_pos T] at j;have o:=aB j;rw[G];clear G j I;go_wp2_with fail;have z:=R.lt;have H:=F.lt;have O:=X.lt;have A:=a.size;obtain⟨W6,p,R,a,c,g⟩:=R.put4 a (by omega) (.bool s7) (.slice A7 k7 c7) (.bool s5) (.slice M Z Q) rfl rfl;replace F:=g F (by omega);replace X:=g X (by omega);replace f:=f.ke c;replace i:=i.ke c;rw[p];clear p;replace k:=aa R.k4 (aa F.k3 X.k4);exact aM (v:= .tuple #[.agg #[.bool s7,.slice A7 k7 c7,.bool s5,.slice M Z Q],.bool true]) (by simp[results,results35,go_sem,R.k4]) rfl ⟨_,by rw[o.out];rfl,by rw[o.out];exact RatAt.of f i am an,a⟩
    ·have G:decide (((Nat.gcd (aO n) (aO d):Nat):Int)=1)=false:=by rw[jA];omega
     have j:=I.out;rw[if_neg T] at j;have o:=aB j;rw[G];clear G j I;go_wp2_with fail;have z:=R.lt;have H:=F.lt;have O:=X.lt;have A:=a.size;obtain⟨W6,p,R,a,c,g⟩:=R.put4 a (by omega) (.bool false) (.slice none 0 0) (.bool false) (.slice none 0 0) rfl rfl;replace F:=g F (by omega);replace X:=g X (by omega);rw[p];clear p;replace k:=aa R.k4 (aa F.k3 X.k4);exact aM (v:= .tuple #[.agg #[.bool false,.slice none 0 0,.bool false,.slice none 0 0],.bool false]) (by simp[results,results35,go_sem,R.k4]) rfl ⟨_,by rw[o.out];rfl,by rw[o.out];exact RatAt.of (IntAt.zero _) (IntAt.zero _) rfl rfl,a⟩
def RRow(w:World)(rows:List (List Value))(qs:List Rat):Prop:=∀(i:Nat) (q:Rat),qs[i]? =some q->∃s A l c e a d c',rows[i]? =some [Value.bool s,Value.slice A l c,Value.bool e,Value.slice a d c']∧RatAt w (.agg #[.bool s,.slice A l c,.bool e,.slice a d c']) q
def RRow.ke{w w':World}{rows:List (List Value)}{qs:List Rat}(h:RRow w rows qs)(f:Keep w w'):RRow w' rows qs:=fun i q hi=>by
 obtain⟨s,A,l,c,j,a,g,c',d,e⟩:=h i q hi;exact⟨s,A,l,c,j,a,g,c',d,e.ke f⟩
def RRow.take{w:World}{rows:List (List Value)}{qs:List Rat}(h:RRow w rows qs)(m:Nat):RRow w rows (qs.take m):=fun i q hi=>by
 rw[fC] at hi;split at hi
 ·exact h i q hi
 ·cases hi
def RatsAt(w:World)(v:Value)(qs:List Rat):Prop:=∃A c,v= .slice A qs.length c∧qs.length<=c∧(qs=[]∨∃b rows,A=some ⟨b,0,none⟩∧Rw w b 4 rows 58∧RRow w rows qs)
def RatsAt.be{w w':World}{v:Value}{qs:List Rat}(h:RatsAt w v qs)(a:Below w.heap.size w w'):RatsAt w' v qs:=by
 obtain⟨A,c,hv,d,h⟩:=h;refine⟨A,c,hv,d,?_⟩;rcases h with h|⟨b,i,e,g,f⟩
 ·exact .inl h
 ·exact .inr ⟨b,i,e,g.be a,f.ke (Keep.be a)⟩
def RatsAt.nil(w:World)(A:Option Addr)(c:Nat):RatsAt w (.slice A 0 c) []:=⟨A,c,rfl,dC _,.inl rfl⟩
def RatsAt.form{w:World}{v:Value}{qs:List Rat}(h:RatsAt w v qs):∃A c,v= .slice A qs.length c∧qs.length<=c:=by
 obtain⟨A,c,hv,a,_⟩:=h;exact⟨A,c,hv,a⟩
def RatsAt.cut{w:World}{A:Option Addr}{c l:Nat}{qs:List Rat}(h:RatsAt w (.slice A l c) qs)(m:Nat)(d:m<=qs.length):RatsAt w (.slice A m c) (qs.take m):=by
 obtain⟨i,j,e,k,h⟩:=h;simp only[Value.slice.injEq] at e;obtain⟨rfl,rfl,rfl⟩:=e;refine⟨A,c,by rw[bK,gF d],by rw[bK];omega,?_⟩;rcases h with h|⟨b,g,e,f,a⟩
 ·exact .inl (by rw[h];simp)
 ·exact .inr ⟨b,g,e,f,a.take m⟩
def RatsAt.at_{w:World}{A:Option Addr}{c l:Nat}{qs:List Rat}(h:RatsAt w (.slice A l c) qs){i:Nat}{q:Rat}(hi:qs[i]? =some q):
  ∃b s B m d n f k g,A=some ⟨b,0,none⟩∧b<w.heap.size∧w.cell? ⟨b,i*4,none⟩=some (.bool s)∧w.cell? ⟨b,i*4+1,none⟩=some (.slice B m d)∧w.cell? ⟨b,i*4+2,none⟩=some (.bool n)∧w.cell? ⟨b,i*4+3,none⟩=some (.slice f k g)∧RatAt w (.agg #[.bool s,.slice B m d,.bool n,.slice f k g]) q:=by
 obtain⟨r,t,e,u,h⟩:=h;simp only[Value.slice.injEq] at e;obtain⟨rfl,rfl,rfl⟩:=e;rcases h with h|⟨b,v,e,a,p⟩
 ·rw[h] at hi;simp at hi
 ·obtain⟨s,B,m,d,n,f,k,g,j,o⟩:=p i q hi;exact⟨b,s,B,m,d,n,f,k,g,e,a.lt,a.cell 0 j rfl,a.cell 1 j rfl,a.cell 2 j rfl,a.cell 3 j rfl,o⟩
def OwnR(w:World)(b:Nat)(qs:List Rat):Prop:=∃rows,Rw w b 4 rows 58∧qs.length<=rows.length∧RRow w rows qs
section
variable {w w':World}{b:Nat}{qs:List Rat}
def OwnR.lt(h:OwnR w b qs):b<w.heap.size:=by
 obtain⟨c,a,_⟩:=h;exact a.lt
def OwnR.be(h:OwnR w b qs)(a:Below w.heap.size w w'):OwnR w' b qs:=by
 obtain⟨f,e,d,c⟩:=h;exact⟨f,e.be a,d,c.ke (Keep.be a)⟩
def OwnR.step{g:Nat}(h:OwnR w b qs)(c:N8 g w w')(f:b≠g):OwnR w' b qs:=by
 obtain⟨i,a,e,d⟩:=h;exact⟨i,⟨(c.2.1 b f).trans a.1,a.2⟩,e,d.ke c.1⟩
def OwnR.rats(h:OwnR w b qs)(c:Nat)(a:qs.length<=c):RatsAt w (.slice (some ⟨b,0,none⟩) qs.length c) qs:=by
 obtain⟨f,e,g,d⟩:=h;exact⟨_,c,rfl,a,.inr ⟨b,f,rfl,e,d⟩⟩
def OwnR.free(h:OwnR w b qs)(j:Nat):w.frozen? ⟨b,j,none⟩=false:=by
 obtain⟨c,a,_⟩:=h;exact a.free j
def OwnR.at_(h:OwnR w b qs){i:Nat}{q:Rat}(hi:qs[i]? =some q):
  ∃s B m d j a g c,w.cell? ⟨b,i*4,none⟩=some (.bool s)∧w.cell? ⟨b,i*4+1,none⟩=some (.slice B m d)∧w.cell? ⟨b,i*4+2,none⟩=some (.bool j)∧w.cell? ⟨b,i*4+3,none⟩=some (.slice a g c)∧RatAt w (.agg #[.bool s,.slice B m d,.bool j,.slice a g c]) q:=by
 obtain⟨o,f,n,l⟩:=h;obtain⟨s,B,m,d,j,a,g,c,e,k⟩:=l i q hi;exact⟨s,B,m,d,j,a,g,c,f.cell 0 e rfl,f.cell 1 e rfl,f.cell 2 e rfl,f.cell 3 e rfl,k⟩
def OwnR.stored(h:OwnR w b qs){i:Nat}(hi:i<qs.length){s a:Bool}{A o:Option Addr}{l c p c':Nat}{q:Rat}(hn:RatAt w (.agg #[.bool s,.slice A l c,.bool a,.slice o p c']) q):
  let W:=(((w.setCell ⟨b,i*4,none⟩ (.bool s)).setCell ⟨b,i*4+1,none⟩ (.slice A l c)).setCell ⟨b,i*4+2,none⟩ (.bool a)).setCell ⟨b,i*4+3,none⟩ (.slice o p c')
  OwnR W b (qs.set i q)∧N8 b w W:=by
 obtain⟨v,J,U,I⟩:=h;obtain⟨Y,x,B,y,r,d,n,f,H,Z⟩:=I i qs[i] (aR hi);have u:i<v.length:=by omega
 have K:=J.set 0 H (by omega) (.bool s);have E:(v.set i ([Value.bool Y,.slice x B y,.bool r,.slice d n f].set 0 (.bool s)))[i]? =some [.bool s,.slice x B y,.bool r,.slice d n f]:=by rw[gP u];rfl
 have C:=K.set 1 E (by omega) (.slice A l c);rw[List.set_set] at C;have F:(v.set i ([Value.bool s,.slice x B y,.bool r,.slice d n f].set 1 (.slice A l c)))[i]? =some [.bool s,.slice A l c,.bool r,.slice d n f]:=by rw[gP u];rfl
 have D:=C.set 2 F (by omega) (.bool a);rw[List.set_set] at D;have G:(v.set i ([Value.bool s,.slice A l c,.bool r,.slice d n f].set 2 (.bool a)))[i]? =some [.bool s,.slice A l c,.bool a,.slice d n f]:=by rw[gP u];rfl
 have L:=D.set 3 G (by omega) (.slice o p c');rw[List.set_set] at L
 have z:Keep w ((((w.setCell ⟨b,i*4,none⟩ (.bool s)).setCell ⟨b,i*4+1,none⟩ (.slice A l c)).setCell ⟨b,i*4+2,none⟩ (.bool a)).setCell ⟨b,i*4+3,none⟩ (.slice o p c')):=
  (((Keep.put (J.cell 0 H rfl) (NoInt.bool _) _).trans (Keep.put (K.cell 1 E rfl) (NoInt.slice _ _ _) _)).trans (Keep.put (C.cell 2 F rfl) (NoInt.bool _) _)).trans (Keep.put (D.cell 3 G rfl) (NoInt.slice _ _ _) _)
 refine⟨⟨_,L,by simpa using U,fun j m k=> ?_⟩,z,fun g t=> ?_,by simp,rfl,rfl,rfl⟩
 ·by_cases e:i=j
  ·subst e;rw[gP hi] at k;injection k with k;subst k;exact⟨s,A,l,c,a,o,p,c',by rw[gP u];rfl,hn.ke z⟩
  ·rw[lI e] at k;obtain⟨M,N,O,P,Q,R,S,T,V,X⟩:=I j m k;exact⟨M,N,O,P,Q,R,S,T,by rw[lI e];exact V,X.ke z⟩
 ·rw[Below.heap_setCell _ ⟨b,i*4+3,none⟩ _ g t,Below.heap_setCell _ ⟨b,i*4+2,none⟩ _ g t,Below.heap_setCell _ ⟨b,i*4+1,none⟩ _ g t,Below.heap_setCell _ ⟨b,i*4,none⟩ _ g t]
def RatAt.zero(w:World):RatAt w (.agg #[.bool false,.slice none 0 0,.bool false,.slice none 0 0]) 0:=RatAt.of (IntAt.zero w) (IntAt.zero w) rfl rfl
def OwnR.made{n:Nat}(h:Rw w b 4 (List.replicate n [.bool false,.slice none 0 0,.bool false,.slice none 0 0]) 58):OwnR w b (List.replicate n 0):=
 ⟨_,h,by simp,fun i m c=>⟨false,none,0,0,false,none,0,0,by
  have:=(List.getElem?_eq_some_iff.1 c).1;rw[dB] at this;rw[j6,if_pos this],by
  have:=j6 (n:=n) (a:=(0:Rat)) (i:=i);rw[c] at this;split at this
  ·injection this with this;subst this;exact RatAt.zero w
  ·cases this⟩⟩
end
def StrsAt(w:World)(v:Value)(a:List (List UInt8)):Prop:=∃A c,v= .slice A a.length c∧a.length<=c∧(a=[]∨∃b off,A=some ⟨b,off,none⟩∧b<w.heap.size∧∀(i:Nat) (l:List UInt8),a[i]? =some l->w.cell? ⟨b,off+i,none⟩=some (.string ⟨l.toArray⟩))
def StrsAt.be{w w':World}{v:Value}{f:List (List UInt8)}(h:StrsAt w v f)(a:Below w.heap.size w w'):StrsAt w' v f:=by
 obtain⟨A,c,hv,j,h⟩:=h;refine⟨A,c,hv,j,?_⟩;rcases h with h|⟨b,g,e,d,k⟩
 ·exact .inl h
 ·exact .inr ⟨b,g,e,aZ d a.size,fun i l h=>(a.cell (p:=⟨b,g+i,none⟩) d).trans (k i l h)⟩
def StrsAt.form{w:World}{v:Value}{a:List (List UInt8)}(h:StrsAt w v a):∃A c,v= .slice A a.length c∧a.length<=c:=by
 obtain⟨A,c,hv,d,_⟩:=h;exact⟨A,c,hv,d⟩
def StrsAt.nil(w:World)(A:Option Addr)(c:Nat):StrsAt w (.slice A 0 c) []:=⟨A,c,rfl,dC _,.inl rfl⟩
def StrsAt.at_{w:World}{A:Option Addr}{c l:Nat}{a:List (List UInt8)}(h:StrsAt w (.slice A l c) a){i:Nat}{t:List UInt8}(hi:a[i]? =some t):
  ∃b off,A=some ⟨b,off,none⟩∧b<w.heap.size∧w.cell? ⟨b,off+i,none⟩=some (.string ⟨t.toArray⟩):=by
 obtain⟨g,j,e,k,h⟩:=h;simp only[Value.slice.injEq] at e;obtain⟨rfl,rfl,rfl⟩:=e;rcases h with h|⟨b,off,e,f,d⟩
 ·rw[h] at hi;simp at hi
 ·exact⟨b,off,e,f,d i t hi⟩
def rd(l:List UInt8):Bool:=(bD l).isSome
def aU(a:List (List UInt8)):List Rat:=a.map (fun l=>(bD l).getD 0)
def SZ(a:List (List UInt8))(v:Value)(w:World)(hG:Glob w)(hv:StrsAt w v a)(hl:a.length<=1073741824)(ae:∀l∈a,l.length<=1073741824):
  Calls prog 32 #[v] w fun e w'=>∃W,e= .returned (.tuple #[W,.bool (a.all rd)])∧(a.all rd=true->∃g,W= .slice (some ⟨g,0,none⟩) a.length a.length∧w.heap.size<=g∧OwnR w' g (aU a))∧Below w.heap.size w w':=by
 obtain⟨A,c,rfl,hc⟩:=hv.form;have V:(aU a).length=a.length:=cH _;have u:=aB V;clear V;go_enter func32,ntmps32;go_wp2_with (at_make;refine jT rfl rfl 58 _ 4 64 underlying81 OC rfl (by decide) a.length rfl rfl rfl rfl (by omega) (by omega) ?_;intro w1 ah S K);have I:=OwnR.made S;clear S ah;go_loopg [14] a.length (fun k i wr=>∃j,Hid (j+k=a.length)∧i= .int .i64 j∧OwnR wr w.heap.size ((aU a).take j++List.replicate k 0)∧Hid ((a.take j).all rd=true)∧Below w.heap.size w wr)
 case atStart=>exact⟨0,by unfold Hid;omega,rfl,by simpa using I,by unfold Hid;simp,K⟩
 case round=>
  clear I K;obtain⟨j,f,rfl,R,q,d⟩:=hrel;generalize wr=wx at *;have am:(0:Int)<=(j:Int):=by omega
  cases gk with
  |zero=>
   have O:j=a.length:=f.out;have J:a.all rd=true:=by
    have:=q.out;rw[O,List.take_length] at this;exact this
   subst O;rw[List.replicate_zero,fH,cZ (by rw[u.out];exact aE)] at R;have X:=aB J;clear J q;go_wp2;go_ret2;rw[X.out];exact⟨_,rfl,fun _=>⟨w.heap.size,rfl,aE,R⟩,d⟩
  |succ k=>
   obtain⟨t,m⟩:∃t,a[j]? =some t:=⟨_,aR (by have:=f.out;omega)⟩;obtain⟨b,ap,rfl,al,g0⟩:=(hv.be d).at_ m;have ag:=ae t (dG m);have an:(j:Int)<(a.length:Int):=by have:=f.out;omega
   have U:(aU a)[j]? =some ((bD t).getD 0):=by unfold aU;rw[iK,m];rfl
   have B:=rI (ys:=aU a) (z:=(0:Rat)) (j:=j) (k:=k+1) (by rw[u.out];exact f.out);have M:=rH (z:=(0:Rat)) (k:=k) U;have aj:=aB B;have Y:=aB M;have N:j<((aU a).take j++List.replicate (k+1) 0).length:=by rw[B,u.out];have:=f.out;omega
   have T:(a.take (j+1)).all rd=rd t:=by rw[BA,m,Option.toList_some,List.all_append,q.out];simp
   have P:rd t=false->a.all rd=false:=fun h=>by
    rw[List.all_eq_false];exact⟨t,dG m,by rw[h];simp⟩
   have s:=aB T;have r:=aB P;clear U B M T P m;go_wp2_with fail;refine(wU t _ (hG.be d) ag).mono ?_;rintro e2 H ⟨v2,rfl,n,L⟩;obtain⟨F,o,D,x,G,p,E,y,rfl⟩:=n.form;replace R:=R.be L;replace d:=aC d L;have C:(bD t).isSome=rd t:=rfl;rw[C];cases hrd:rd t with
   |false=>
    have Z:=aB (r.out hrd);clear r s hrd C;go_wp2;go_ret2;rw[Z.out];exact⟨_,rfl,(fun h=>by cases h),d.alloc d.size _⟩
   |true=>
    rw[hrd] at s;clear r hrd C;replace R:=R.be ((aG H.heap.size H).alloc aE (.cells #[.bool F,.slice o D x,.bool G,.slice p E y] 58));replace n:=n.ke (Keep.alloc H (.cells #[.bool F,.slice o D x,.bool G,.slice p E y] 58));have ad:=d.alloc d.size (.cells #[.bool F,.slice o D x,.bool G,.slice p E y] 58);obtain⟨s',B',l',d',aq,ai,ao,ak,q0,q1,q2,q3, -⟩:=R.at_ (aR N);have f0:=R.free (j*4);have f1:=R.free (j*4+1);have f2:=R.free (j*4+2);have f3:=R.free (j*4+3);go_wp2_with fail;obtain⟨Q,af⟩:=R.stored N n;rw[Y.out] at Q;have ac:=jD ad af aE;go_roundg k
    case rel=>exact⟨j+1,by have:=f.out;unfold Hid;omega,by go_num,Q,s,ac⟩
    case measure=>omega
def T0(a:List (List UInt8))(v:Value)(w:World)(c:Glob w)(hv:StrsAt w v a)(j:a.length<=1073741824)(k:∀l∈a,l.length<=1073741824):
  Calls prog 32 #[v] w fun e w'=>∃b,e= .returned (.tuple #[b,.bool (a.all rd)])∧(a.all rd=true->RatsAt w' b (aU a))∧Below w.heap.size w w':=
 (SZ a v w c hv j k).mono (fun e w' ⟨b,i,h,f⟩=>⟨b,i,fun d=>by
  obtain⟨g,rfl, -,R⟩:=h d;have hn:(aU a).length=a.length:=cH _;have:=R.rats a.length (by rw[hn];exact aE);rw[hn] at this;exact this,f⟩)
def SV(q:Rat)(v:Value)(w:World)(i:RatAt w v q)(l:nl q.num.natAbs<=17592186044416):
  Calls prog 33 #[v] w fun e w'=>e= .returned (.bool (decide (q=0)))∧Below w.heap.size w w':=by
 obtain⟨s,A,k,c,f,a,d,b,rfl⟩:=i.form;have m:Bx (w.alloc (.cells #[.bool s,.slice A k c,.bool f,.slice a d b] 58)) (w.heap.size) [.bool s,.slice A k c,.bool f,.slice a d b] 58:=Bx.newAt w [.bool s,.slice A k c,.bool f,.slice a d b] 58 (w.heap.size) (by simp);have g:Below w.heap.size w (w.alloc (.cells #[.bool s,.slice A k c,.bool f,.slice a d b] 58)):=(aG _ _).alloc (by simp) _;go_enter func33,ntmps33;go_wp2_with fail;generalize w.alloc (.cells #[.bool s,.slice A k c,.bool f,.slice a d b] 58)=W at *;have h:=(i.be g).num;refine(g9 _ _ _ h l).mono ?_;rintro n o ⟨rfl,j⟩;go_wp2;go_ret;exact⟨rfl,aC g j⟩
def SW(n:Int):Lib.itoa n=iP n:=by
 unfold Lib.itoa iP;by_cases h:n<0
 ·rw[if_pos h,if_pos h];rfl
 ·rw[if_neg h,if_neg h,iM,show n.toNat=n.natAbs by omega]
def SX(n:Int)(c: -9223372036854775808<=n)(d:n<=9223372036854775807)(w:World)(f:Glob w):
  Calls prog 102 #[.int .i64 n] w fun e w'=>e= .returned (.string ⟨(iP n).toArray⟩)∧Below w.heap.size w w':=by
 have a:=Tryz.strconv_FormatInt_10 n c d w f.pow;rw[SW] at a;go_enter func102,ntmps102;go_wp2_with fail;refine a.mono ?_;rintro e i ⟨rfl,k,h,b⟩;have g:Below w.heap.size w i:=by rw[b];exact Lib.below_grow w.heap.size w aE k h
 clear b;go_wp2;go_ret;exact⟨rfl,g⟩
def wR(n K:Nat)(h:nl n<=K):(Lib.decDigits n).length<=20*K+1:=by
 rw[Lib.decDigits_length];refine rS ?_ (by omega);refine aZ (cV n) ?_;have b:BN^nl n<=BN^K:=cO (by decide) h;have a:BN^K<=(10^20)^K:=Nat.pow_le_pow_left (by decide) K;rw[<-Nat.pow_mul] at a;have c:10^(20*K)<=10^(20*K+1):=cO (by decide) (by omega);omega
def SY(x:Int)(K:Nat)(h:nl x.natAbs<=K):(iP x).length<=20*K+2:=by
 unfold iP;have:=wR x.natAbs K h;rw[bE];split<;>simp<;>omega
def I4(q:Rat)(v:Value)(w:World)(z:Glob w)(J:RatAt w v q)(K:Nat)(hK:RL K q)(am:K<=1073741824):
  Calls prog 60 #[v] w fun e w'=>e= .returned (.string ⟨(cW q).toArray⟩)∧Below w.heap.size w w':=by
 obtain⟨s,A,k,c,n,h,j,i,rfl⟩:=J.form;obtain⟨ae,an⟩:=hK;have ao:=mY q;have a:Bx (w.alloc (.cells #[.bool s,.slice A k c,.bool n,.slice h j i] 58)) (w.heap.size) [.bool s,.slice A k c,.bool n,.slice h j i] 58:=Bx.newAt w [.bool s,.slice A k c,.bool n,.slice h j i] 58 (w.heap.size) (by simp);have b:Below w.heap.size w (w.alloc (.cells #[.bool s,.slice A k c,.bool n,.slice h j i] 58)):=(aG _ _).alloc (by simp) _;go_enter func60,ntmps60;go_wp2_with fail;generalize w.alloc (.cells #[.bool s,.slice A k c,.bool n,.slice h j i] 58)=W at *;have hn:=(J.be b).num;have d:=(J.be b).den;refine(g9 _ _ _ d (by omega)).mono ?_;rintro e1 f ⟨rfl,F⟩;replace a:=a.be F;replace N:=a.cell 0 rfl;replace O:=a.cell 1 rfl;replace D:=a.cell 2 rfl;replace E:=a.cell 3 rfl;replace m:=Keep.be F;replace hn:=hn.ke m;replace d:=d.ke m;replace b:=aC b F;by_cases o:bS q=0
 ·have t:decide (bS q=0)=true:=by simpa using o
  have u:cW q=iP q.num:=by unfold cW iP;rw[if_pos (fV.1 o),fH]
  have x:=aB u;rw[t];clear t o u;go_wp2_with fail;refine(OG _ _ _ hn (by omega)).mono ?_;rintro e2 w2 ⟨rfl,G⟩;replace a:=a.be G;replace N:=a.cell 0 rfl;replace O:=a.cell 1 rfl;replace D:=a.cell 2 rfl;replace E:=a.cell 3 rfl;replace m:=Keep.be G;replace hn:=hn.ke m;replace d:=d.ke m;replace b:=aC b G;cases hf:kF q.num with
  |true=>
   rw[if_pos rfl];have V: -9223372036854775808<=q.num∧q.num<=9223372036854775807:=by unfold kF at hf;simpa using hf
   clear hf;go_wp2_with fail;refine(SX q.num V.1 V.2 _ (z.be b)).mono ?_;rintro e3 w3 ⟨rfl,H⟩;go_wp2;go_ret;rw[x.out];exact⟨rfl,aC b H⟩
  |false=>
   clear hf;go_wp2_with fail;refine(T7 q.num _ _ (z.be b) hn (by omega)).mono ?_;rintro e3 w3 ⟨rfl,H⟩;go_wp2;go_ret;rw[x.out];exact⟨rfl,aC b H⟩
 ·have t:decide (bS q=0)=false:=by simpa using o
  have I:q.den≠1:=fun e=>o (fV.2 e);have T:bS q=q.den:=mI I;have U:iP (bS q)=Lib.decDigits q.den:=by unfold iP;rw[T,if_neg (by omega)];rfl
  have u:cW q=(iP q.num++[47])++iP (bS q):=by unfold cW;rw[U,if_neg I];unfold iP;simp
  have x:=aB u;have ap:=SY q.num K ae;rw[t];clear t o u U T I;go_wp2_with fail;refine(BP f.heap.size (.slice none 0 0) [] q.num s A k c f (z.be b).globB aE (TxtAt.nil _ _) hn (Apart.nil _) (by omega) (by simp)).mono ?_;rintro e7 Y ⟨M,rfl,y,t7⟩;rw[iM] at y;have S:=d.blk;have R:=b;have ad:=(z.be b).globB;have al:=a.lt;have r:Below f.heap.size f Y:=t7.belowB aE (fun g e=>by simp[Value.ownBlock] at e);have X:=r.size;replace a:=a.be r;replace N:=a.cell 0 rfl;replace O:=a.cell 1 rfl;replace D:=a.cell 2 rfl;replace E:=a.cell 3 rfl;replace m:=Keep.be r;replace d:=d.ke m;replace b:=aC b r;have ac:=y;unfold TxtAt at y;have L:=ac.lt;have n7:M.ownBlock≠some w.heap.size:=fun e=>by have:=(L _ e).1;omega
  have Q:Apart M (.slice h j i):=fun g e Z=>by have:=(L g e).1;have:=S g Z;omega
  go_wp2_with (at_builtin;refine gM rfl rfl 5 _ 1 1 underlying149 nF rfl (by decide) f.heap.size M (iP q.num).length _ rfl (y.alloc _) [Value.int .u8 47] rfl (by simp) (lM _ _ _) (by simp[Value.oneCell']) (by omega) (by omega) (by simp;omega) ?_;intro q1 C ak aj af;have p:=TxtAt.more (bs:=iP q.num) (l:=[47]) ak aj af;replace a:=a.txt p.2 n7;replace D:=a.cell 2 rfl;replace E:=a.cell 3 rfl);have ai:IntAt C (.agg #[.bool n,.slice h j i]) (bS q):=IntAt.of (d.words.txt p.2 Q) d.neg;have ah:Below f.heap.size Y C:=p.2.belowB X (fun g e=>(L g e).1);have B:Below f.heap.size f C:=r.trans ah;refine(BP f.heap.size q1 (iP q.num++[47]) (bS q) n h j i C (ad.on B) B.size p.1 ai (p.2.apart Q (fun g e=>aZ (S g e) X)) (by omega) (by simp;omega)).mono ?_;rintro e9 w9 ⟨v9,rfl,P,t9⟩;rw[<-x.out] at P;have hc:=P.str;have ag:=B.trans (t9.belowB B.size (fun g e=>(p.1.lt g e).1));go_wp2;go_ret;exact⟨rfl,aC R ag⟩
def OwnS(w:World)(b:Nat)(ls:List (List UInt8)):Prop:=∃cs,Bx w b cs 9∧ls.length<=cs.length∧∀(i:Nat) (l:List UInt8),ls[i]? =some l->cs[i]? =some (Value.string ⟨l.toArray⟩)
section
variable {w w':World}{b:Nat}{ls:List (List UInt8)}
def OwnS.be(h:OwnS w b ls)(f:Below w.heap.size w w'):OwnS w' b ls:=by
 obtain⟨a,c,d,e⟩:=h;exact⟨a,c.be f,d,e⟩
def OwnS.made{n:Nat}(h:Rw w b 1 (List.replicate n [.string ⟨#[]⟩]) 9):OwnS w b (List.replicate n []):=by
 have e:(List.replicate n [Value.string ⟨#[]⟩]).flatten=List.replicate n (Value.string ⟨#[]⟩):=by
  induction n with
  |zero=>rfl
  |succ n d=>simp[List.replicate_succ]
 refine⟨_,by have:=h.1;rw[e] at this;exact this,by simp,fun i l a=> ?_⟩;have c:=(List.getElem?_eq_some_iff.1 a).1;rw[dB] at c;rw[j6,if_pos c] at a⊢;injection a with a;rw[<-a]
def OwnS.at_(h:OwnS w b ls){i:Nat}{l:List UInt8}(hi:ls[i]? =some l):w.cell? ⟨b,i,none⟩=some (.string ⟨l.toArray⟩):=by
 obtain⟨d,a,e,c⟩:=h;exact a.cell i (c i l hi)
def OwnS.free(h:OwnS w b ls)(j:Nat):w.frozen? ⟨b,j,none⟩=false:=by
 obtain⟨c,a,_⟩:=h;exact a.free j
def OwnS.stored(h:OwnS w b ls){i:Nat}(hi:i<ls.length)(l:List UInt8):OwnS (w.setCell ⟨b,i,none⟩ (.string ⟨l.toArray⟩)) b (ls.set i l)∧N8 b w (w.setCell ⟨b,i,none⟩ (.string ⟨l.toArray⟩)):=by
 obtain⟨f,c,k,d⟩:=h;have m:=c.cell i (d i _ (aR hi));refine⟨⟨f.set i (.string ⟨l.toArray⟩),c.set i _,by simpa using k,fun j t a=> ?_⟩,Keep.put m (NoInt.string _) _,fun g n=>Below.heap_setCell _ ⟨b,i,none⟩ _ g n,by simp,rfl,rfl,rfl⟩;by_cases e:i=j
 ·subst e;rw[gP hi] at a;injection a with a;subst a;rw[gP (by omega)]
 ·rw[lI e] at a⊢;exact d j t a
end
def VK(a b:Nat):nl (Nat.lcm a b)<=nl a+nl b:=by
 refine aH (cK ?_) (fI a b);unfold Nat.lcm;exact Nat.div_le_self _ _
structure ComDen(qs:List Rat)(D:Int)(B:Nat):Prop where
 pos:0<D
 dvd:∀q∈qs,(q.den:Int)∣D
 nl_:nl D.natAbs<=B
def VL(w:World)(a:List Rat)(B:Nat)(e:Ending)(w':World):Prop:=∃v D,e= .returned v∧IntAt w' v D∧ComDen a D B∧Below w.heap.size w w'
def ComDen.skip{b:List Rat}{D:Int}{j K:Nat}{q:Rat}(h:ComDen (b.take j) D (1+j*K))(d:b[j]? =some q)(c:(q.den:Int)∣D):ComDen (b.take (j+1)) D (1+(j+1)*K):=by
 refine⟨h.pos,fun x a=> ?_,by have:=h.nl_;rw[Nat.succ_mul];omega⟩;rw[BA,d,Option.toList_some] at a;rcases List.mem_append.1 a with a|a
 ·exact h.dvd x a
 ·simp at a;subst a;exact c
def ComDen.lcm{b:List Rat}{D:Int}{j K:Nat}{q:Rat}(h:ComDen (b.take j) D (1+j*K))(d:b[j]? =some q)(g:nl q.den<=K):ComDen (b.take (j+1)) ((Nat.lcm D.natAbs q.den:Nat):Int) (1+(j+1)*K):=by
 have f:=h.pos;have e:Nat.lcm D.natAbs q.den≠0:=Nat.lcm_ne_zero (by omega) q.den_nz;refine⟨by omega,fun x a=> ?_,?_⟩
 ·rw[BA,d,Option.toList_some] at a;rcases List.mem_append.1 a with a|a
  ·have c:=h.dvd x a;refine Int.ofNat_dvd.2 (Nat.dvd_trans ?_ (Nat.dvd_lcm_left _ _));exact Int.ofNat_dvd_left.1 c
  ·simp at a;subst a;exact Int.ofNat_dvd.2 (Nat.dvd_lcm_right _ _)
 ·rw[dD,Nat.succ_mul];have:=VK D.natAbs q.den;have:=h.nl_;omega
def VM(g:List Rat)(v:Value)(w:World)(hG:Glob w)(hv:RatsAt w v g)(K T:Nat)(hK:∀q∈g,RL K q)(hl:g.length<=1073741824)(a8:1+g.length*K<=T)(a9:K<=T)(ai:5*T+4<=aJ):
  Calls prog 72 #[v] w (VL w g (1+g.length*K)):=by
 obtain⟨A,c,rfl,hc⟩:=hv.form;have R:Bx (w.alloc (.cells #[.bool false,.slice none 0 0] 54)) (w.heap.size) [.bool false,.slice none 0 0] 54:=Bx.newAt w [.bool false,.slice none 0 0] 54 (w.heap.size) (by simp);have a:Below w.heap.size w (w.alloc (.cells #[.bool false,.slice none 0 0] 54)):=(aG _ _).alloc (by simp) _;go_enter func72,ntmps72;go_wp2_with fail;generalize w.alloc (.cells #[.bool false,.slice none 0 0] 54)=W at *;refine(GA 1 _ (by decide) (by decide)).mono ?_;rintro e1 l ⟨v1,rfl,H,al⟩;obtain⟨s1,Q,k1,U,rfl⟩:=H.form;replace R:=R.be al;replace p:=R.cell 0 rfl;replace aq:=R.free 0;replace r:=R.cell 1 rfl;replace ar:=R.free 1;replace f:=Keep.be al;replace a:=aC a al;go_wp2_with fail;have az:=R.lt;have bk:=a.size;replace R:=R.alloc (.cells #[.bool s1,.slice Q k1 U] 54);have C:=Bx.newAt l [.bool s1,.slice Q k1 U] 54 (l.heap.size) (by simp);replace a:=a.alloc a.size (.cells #[.bool s1,.slice Q k1 U] 54);replace f:=Keep.alloc l (.cells #[.bool s1,.slice Q k1 U] 54);replace H:=H.ke f;generalize l.alloc (.cells #[.bool s1,.slice Q k1 U] 54)=w2 at *;replace p:=R.cell 0 rfl;replace r:=R.cell 1 rfl;replace t:=C.cell 0 rfl;replace x:=C.cell 1 rfl;have au:IntBx w2 l.heap.size 1:=⟨_,_,_,_,C,H⟩;have aw:=R;have ax:=a;have bj:=az;clear R C H p r aq ar t x f a;go_loopg [9] g.length (fun k i wr=>∃j D,Hid (j+k=g.length)∧i= .int .i64 j∧IntBx wr l.heap.size D∧ComDen (g.take j) D (1+j*K)∧Bx wr w.heap.size [.bool false,.slice none 0 0] 54∧Below w.heap.size w wr)
 case atStart=>exact⟨0,1,by unfold Hid;omega,rfl,au,⟨by decide,(fun q h=>by simp at h),by rw[show nl (1:Int).natAbs=1 from mJ (by decide) (by decide)];omega⟩,aw,ax⟩
 case round=>
  clear au aw ax;obtain⟨j,D,y,rfl,hC,O,R,a⟩:=hrel;generalize wr=N at *;have bf:(0:Int)<=(j:Int):=by omega
  have bh:1+j*K<=T:=by
   have:j*K<=g.length*K:=dK _ (by have:=y.out;omega);omega
  have a6:=O.nl_;have a7:=O.pos;obtain⟨sc,S,kc,V,C,n⟩:=id hC;cases gk with
  |zero=>
   have hj:j=g.length:=y.out;have a1:ComDen g D (1+g.length*K):=by
    have:=O;rw[hj,List.take_length] at this;exact this
   replace p:=R.cell 0 rfl;replace aq:=R.free 0;replace r:=R.cell 1 rfl;replace ar:=R.free 1;replace t:=C.cell 0 rfl;replace ao:=C.free 0;replace x:=C.cell 1 rfl;replace ap:=C.free 1;have bi:¬(j:Int)<(g.length:Int):=by omega
   clear O hj y;go_wp2_with fail;have a0:=R.lt;have ay:=C.lt;have a2:=a.size;replace C:=(C.far 0 (.bool sc) (show w.heap.size≠l.heap.size by omega)).far 1 (.slice S kc V) (show w.heap.size≠l.heap.size by omega);replace f:=jU (s:=sc) (u:= .slice S kc V) a (by omega) R;clear R a;obtain⟨-, -,R,a,f⟩:=f;replace n:=n.ke f;generalize (N.setCell ⟨w.heap.size,0,none⟩ (.bool sc)).setCell ⟨w.heap.size,1,none⟩ (.slice S kc V)=W6 at *;replace p:=R.cell 0 rfl;replace r:=R.cell 1 rfl;replace t:=C.cell 0 rfl;replace x:=C.cell 1 rfl;exact aM (v:= .agg #[.bool sc,.slice S kc V]) (by simp[results,results72,go_sem,p,r]) rfl ⟨_,D,rfl,n,a1,a⟩
  |succ k=>
   obtain⟨q,P⟩:∃q,g[j]? =some q:=⟨_,aR (by have:=y.out;omega)⟩;obtain⟨b,s,B,m,d,M,z,L,F,rfl,bc,g0,g1,g2,g3,J⟩:=(hv.be a).at_ P;have av:=hK q (dG P);have ba:=mY q;have bb:=av.2;have bg:(j:Int)<(g.length:Int):=by have:=y.out;omega
   have ad:=fun hd=>O.skip P hd;have an:=O.lcm P av.2;have HQ:=aB P;clear P;go_wp2_with fail;have a0:=R.lt;have ay:=C.lt;have a2:=a.size;replace R:=R.alloc (.cells #[.bool s,.slice B m d,.bool M,.slice z L F] 58);replace C:=C.alloc (.cells #[.bool s,.slice B m d,.bool M,.slice z L F] 58);have X:=Bx.newAt N [.bool s,.slice B m d,.bool M,.slice z L F] 58 (N.heap.size) (by simp);replace a:=a.alloc a.size (.cells #[.bool s,.slice B m d,.bool M,.slice z L F] 58);replace f:=Keep.alloc N (.cells #[.bool s,.slice B m d,.bool M,.slice z L F] 58);replace J:=J.ke f;replace n:=n.ke f;generalize N.alloc (.cells #[.bool s,.slice B m d,.bool M,.slice z L F] 58)=wa at *;replace p:=R.cell 0 rfl;replace r:=R.cell 1 rfl;replace t:=C.cell 0 rfl;replace x:=C.cell 1 rfl;replace ae:=X.cell 0 rfl;replace af:=X.cell 1 rfl;replace ag:=X.cell 2 rfl;replace ah:=X.cell 3 rfl;have I:=J.den;refine(g9 _ _ _ I (by unfold aJ at ai;omega)).mono ?_;rintro e2 bn ⟨rfl,Y⟩;replace R:=R.be Y;replace p:=R.cell 0 rfl;replace r:=R.cell 1 rfl;replace C:=C.be Y;replace t:=C.cell 0 rfl;replace x:=C.cell 1 rfl;replace X:=X.be Y;replace ae:=X.cell 0 rfl;replace af:=X.cell 1 rfl;replace ag:=X.cell 2 rfl;replace ah:=X.cell 3 rfl;replace f:=Keep.be Y;replace J:=J.ke f;replace n:=n.ke f;replace I:=I.ke f;replace a:=aC a Y;by_cases G:bS q=0
   ·have o:decide (bS q=0)=true:=by simpa using G
    rw[o];have am:=ad (by rw[fV.1 G];exact Int.one_dvd _);clear o G ad an;go_wp2;go_roundg k
    case rel=>exact⟨j+1,D,by have:=y.out;unfold Hid;omega,by go_num,⟨_,_,_,_,C,n⟩,am,R,a⟩
    case measure=>omega
   ·have o:decide (bS q=0)=false:=by simpa using G
    have aj:bS q=q.den:=mI (fun e=>G (fV.2 e));rw[o];clear o;go_wp2_with fail;refine(OH _ _ _ _ _ I n (by unfold aJ at ai;omega) (by unfold aJ at ai;omega)).mono ?_;rintro e3 w3 ⟨rfl,Z⟩;replace R:=R.be Z;replace p:=R.cell 0 rfl;replace r:=R.cell 1 rfl;replace C:=C.be Z;replace t:=C.cell 0 rfl;replace ao:=C.free 0;replace x:=C.cell 1 rfl;replace ap:=C.free 1;replace X:=X.be Z;replace ae:=X.cell 0 rfl;replace af:=X.cell 1 rfl;replace ag:=X.cell 2 rfl;replace ah:=X.cell 3 rfl;replace f:=Keep.be Z;replace J:=J.ke f;replace n:=n.ke f;replace I:=I.ke f;replace a:=aC a Z;by_cases he:bS q=D
    ·have o:decide (bS q=D)=true:=by simpa using he
     rw[o];have am:=ad (by rw[<-he,aj];exact Int.dvd_refl _);clear o G ad an aj he;go_wp2;go_roundg k
     case rel=>exact⟨j+1,D,by have:=y.out;unfold Hid;omega,by go_num,⟨_,_,_,_,C,n⟩,am,R,a⟩
     case measure=>omega
    ·have o:decide (bS q=D)=false:=by simpa using he
     rw[o];have ak:=fun W hG H h2=>OI D (bS q) (.agg #[.bool sc,.slice S kc V]) (.agg #[.bool M,.slice z L F]) W hG H h2 (by omega) G T (by omega) (by omega) ai;have e5:(bS q).natAbs=q.den:=by rw[aj];rfl
     rw[e5] at ak;unfold dW at ak;clear o ad aj he e5;generalize ((Nat.lcm D.natAbs q.den:Nat):Int)=E at *;go_wp2_with fail;refine(ak _ (hG.be a) n I).mono ?_;rintro e4 w4 ⟨v4,rfl,h4,ac⟩;obtain⟨s4,A4,k4,c4,rfl⟩:=h4.form;replace R:=R.be ac;replace p:=R.cell 0 rfl;replace r:=R.cell 1 rfl;replace C:=C.be ac;replace t:=C.cell 0 rfl;replace ao:=C.free 0;replace x:=C.cell 1 rfl;replace ap:=C.free 1;replace X:=X.be ac;replace ae:=X.cell 0 rfl;replace af:=X.cell 1 rfl;replace ag:=X.cell 2 rfl;replace ah:=X.cell 3 rfl;replace f:=Keep.be ac;replace a:=aC a ac;clear ak;go_wp2_with fail;have a4:=R.lt;have a3:=C.lt;have a5:=X.lt;have bm:=a.size;replace R:=(R.far 0 (.bool s4) (show l.heap.size≠w.heap.size by omega)).far 1 (.slice A4 k4 c4) (show l.heap.size≠w.heap.size by omega);replace X:=(X.far 0 (.bool s4) (show l.heap.size≠N.heap.size by omega)).far 1 (.slice A4 k4 c4) (show l.heap.size≠N.heap.size by omega);replace f:=jU (s:=s4) (u:= .slice A4 k4 c4) a (by omega) C;clear C a;obtain⟨-, -,C,a,f⟩:=f;replace h4:=h4.ke f;generalize (w4.setCell ⟨l.heap.size,0,none⟩ (.bool s4)).setCell ⟨l.heap.size,1,none⟩ (.slice A4 k4 c4)=W6 at *;replace p:=R.cell 0 rfl;replace r:=R.cell 1 rfl;replace t:=C.cell 0 rfl;replace x:=C.cell 1 rfl;replace ae:=X.cell 0 rfl;replace af:=X.cell 1 rfl;replace ag:=X.cell 2 rfl;replace ah:=X.cell 3 rfl;go_roundg k
     case rel=>exact⟨j+1,E,by have:=y.out;unfold Hid;omega,by go_num,⟨_,_,_,_,C,h4⟩,an,R,a⟩
     case measure=>omega
