/-
  Contracts, laws: RcoK, KeepB, AwkP.
-/
import Derived.Test.YthfnenohhindpaaGreatDoorD44
import Derived.Test.YthfnenohhindpaaGreatDoorD46
set_option linter.all false
set_option maxHeartbeats 8000000
set_option maxRecDepth 100000
namespace Go.Proofs.YthfnenohhindpaaGreatDoor
open Go.RowKit Sos
def pM (w:World) (n E:Int) (e:Ending) (w':World):Prop:=e= .returned (.tuple #[.int .i64 n,.int .i64 E])∧Below w.heap.size w w'
theorem zK (l:List UInt8):gB l (-1)=eI (decide (l=[])) true∧gB l 1=eI (decide (l=[])) false:=by
 unfold gB eI;by_cases h:l=[]<;>simp[h]
theorem H7 {A:List Rat} {f g:Bool} {x y:Rat} {n:Int} (h:CntR A (eI f true) x (eI g false) y n) (p:∀q∈A,RL 1 q) (k:A.length<=7) (r:RL 1 x) (t:RL 1 y):
  f=false∧g=false∧¬x<y∧n=0∨(f=true∨g=true∨x<y)∧∀W v u1 u2,QsAt W v A->REnd W u1 f x->REnd W u2 g y->Calls Tryz.prog 62 #[v,u1,u2] W (dK W n):=by
 have j:gN (eI f true) x (eI g false) y=true->∀W v u1 u2,QsAt W v A->REnd W u1 f x->REnd W u2 g y->Calls Tryz.prog 62 #[v,u1,u2] W (dK W n):=fun l=>by
  obtain⟨w,s,c,m,o,rfl⟩:=h.2 l;exact fun W v u1 u2 d e i=>I1 A w s c f g x y v u1 u2 W d m o p k e i (bU r (by decide)) (bU t (by decide))
 have b:(f=true∨g=true∨x<y)↔gN (eI f true) x (eI g false) y=true:=by
  unfold gN;cases f<;>cases g<;>simp[eI]
 by_cases a:f=true∨g=true∨x<y
 ·exact .inr ⟨a,j (b.1 a)⟩
 ·refine .inl ⟨?_,?_,fun h=>a (.inr (.inr h)),h.1 ?_⟩
  ·cases f with
   |false=>rfl
   |true=>exact absurd (.inl rfl) a
  ·cases g with
   |false=>rfl
   |true=>exact absurd (.inr (.inl rfl)) a
  ·cases hq:gN (eI f true) x (eI g false) y with
   |false=>rfl
   |true=>exact absurd (b.2 hq) a
theorem zL (ls:List (List UInt8)) (a b:List UInt8) (n:Int) (e:uN (aN ls) (gB a (-1)) (fL a) (gB b 1) (fL b) (iC ls a b) n) (v:Value) (w:World) (hv:StrsAt w v ls) (T:ls.length<=7) (hs:∀l∈ls,l.length<=6) (ha:a.length<=12) (aq:b.length<=12):
  Calls Tryz.prog 23 #[v,.string ⟨a.toArray⟩,.string ⟨b.toArray⟩] w (pM w n (iC ls a b)):=by
 obtain⟨A,c,rfl,hc⟩:=hv.form;have U:=fun W h=>zA ls (.slice A ls.length c) W h T hs;have P:=fun W=>zN a W (by omega);have S:=fun W=>zN b W (by omega);have Z:=uM (l:=a) (by omega);have rb:=uM (l:=b) (by omega);have ac:∀q∈aN ls,RL 1 q:=mC (fun l T=>aG (hs l T) (by decide));have al:(aN ls).length=ls.length:=bK _;have ak:=uO ls;rw[(zK a).1,(zK b).2] at e;have i:iC ls a b=if d8 ls=1∨gC a=false∨gC b=false then 1 else d8 ls:=rfl;unfold rD at U;unfold zM at P S;unfold pM;obtain⟨E,ab⟩:∃E,iC ls a b=E:=⟨_,rfl⟩;rw[ab] at i e⊢;clear ab;generalize d8 ls=R at *;generalize gC a=V at *;generalize gC b=s at *;generalize decide (a=[])=f at *;generalize decide (b=[])=g at *;generalize fL a=xa at *;generalize fL b=xb at *;go_enter Tryz.func23,Tryz.ntmps23;go_wp2_with fail;refine(U _ hv).mono ?_;rintro e1 w1 ⟨v1,rfl,k,j⟩;obtain⟨A1,c1,rfl, -⟩:=k.form;clear U;go_wp2_with fail;refine(P _).mono ?_;rintro e3 w3 ⟨v3,z,rfl,⟨s1,B1,k1,d1,s2,B2,k2,d2,rfl,m⟩,ag,I⟩;obtain⟨w4,e4,J,X⟩:=bB w3 [.bool f,.bool s1,.slice B1 k1 d1,.bool s2,.slice B2 k2 d2] 93;replace m:=m.below J;have C:=aC I J;replace k:=k.below C;replace j:=aC j C;have cX:=X.k5;clear P;go_wp2_with fail;(try rw[e4]);(try clear e4);refine(S _).mono ?_;rintro e5 w5 ⟨v5,B,rfl,⟨s3,B3,k3,d3,s4,B4,k4,d4,rfl,o⟩,ah,K⟩;obtain⟨x,d,L,Y⟩:=bB w5 [.bool g,.bool s3,.slice B3 k3 d3,.bool s4,.slice B4 k4 d4] 93;replace o:=o.below L;have p:=aC K L;replace k:=k.below p;replace m:=m.below p;replace X:=X.below p;replace j:=aC j p;replace cX:=X.k5;have cY:=Y.k5;clear S C p I J K L;rcases ak with ⟨rfl, -, -,hQ⟩|⟨rfl, -, -⟩|⟨rfl, -, -⟩
 ·cases V with
  |false=>
   obtain rfl:E=1:=by rw[i];rfl
   clear i;cases s
   all_goals (
    obtain rfl:n=0:=e.1 (by decide);clear e;go_wp2_with fail;all_goals (try rw[d])
    all_goals (try clear d)
    all_goals go_ret2
    all_goals exact⟨rfl,j⟩
   )
  |true=>
   cases s with
   |false=>
    obtain rfl:E=1:=by rw[i];rfl
    clear i;obtain rfl:n=0:=e.1 (by decide);clear e;go_wp2_with fail;all_goals (try rw[d])
    all_goals (try clear d)
    all_goals go_ret2
    all_goals exact⟨rfl,j⟩
   |true=>
    obtain rfl:E=0:=by rw[i];rfl
    clear i;obtain rfl:=ag rfl;obtain rfl:=ah rfl;rw[hQ] at k⊢;have ae:=H7 (e.2 rfl) ac (by omega) Z rb;have t:=fun W u v h h'=>zO z B u v W h h' 1 Z rb (by decide);have r:=GS z B;unfold dK at ae t;clear e ag ah ac al hQ Z rb;generalize aN ls=Q at *;generalize (z-B).num.sign=D at *;have H:∀W,Below x.heap.size x W->REnd W (.agg #[.bool f,.bool s1,.slice B1 k1 d1,.bool s2,.slice B2 k2 d2]) f z:=fun W G=>⟨_,_,_,_,_,_,_,_,rfl,m.below G⟩;have hY:∀W,Below x.heap.size x W->REnd W (.agg #[.bool g,.bool s3,.slice B3 k3 d3,.bool s4,.slice B4 k4 d4]) g B:=fun W G=>⟨_,_,_,_,_,_,_,_,rfl,o.below G⟩;rcases ae with ⟨rfl,rfl,ai,rfl⟩|⟨O,af⟩
    ·have F:¬D<0:=fun h=>ai (r.1 h);have aj:0<=D:=by omega
     clear r ai F;go_wp2_with fail;(try rw[d]);(try clear d);refine(t _ _ _ m.up o.up).mono ?_;rintro e7 y ⟨rfl,M⟩;have:=St.mk M;go_wp2_with fail;go_ret2;exact⟨rfl,eG (b:=y) j⟩
    ·have ap:=H _ (aH _ _);by_cases ad:f=false∧g=false
     ·obtain⟨rfl,rfl⟩:=ad;have F:D<0:=r.2 (by simpa using O);have aj:¬0<=D:=by omega
      clear r O F;go_wp2_with fail;(try rw[d]);(try clear d);refine(t _ _ _ m.up o.up).mono ?_;rintro e7 y ⟨rfl,M⟩;have:=St.mk M;have an:=(X.up (b:=y)).k5;have ao:=(Y.up (b:=y)).k5;go_wp2_with fail;refine(af _ _ _ _ k.up (H _ Up.out) (hY _ Up.out)).mono ?_;rintro e9 w9 ⟨rfl,N⟩;have:=St.mk N;go_wp2_with fail;go_ret2;exact⟨rfl,eG (b:=w9) j⟩
     ·clear O r t;have am:=cX;cases f<;>cases g
      ·exact absurd ⟨rfl,rfl⟩ ad
      all_goals (
       go_wp2_with fail;(try rw[d]);(try clear d);try go_region
       all_goals (
        go_wp2_with fail;refine(af _ _ _ _ k.up (H _ Up.out) (hY _ Up.out)).mono ?_;rintro e9 w9 ⟨rfl,N⟩;have:=St.mk N;go_wp2_with fail;go_ret2;exact⟨rfl,eG (b:=w9) j⟩
       )
      )
 ·obtain rfl:E=1:=by rw[i,if_pos (.inl rfl)]
  clear i;cases V<;>cases s
  all_goals (
   obtain rfl:n=0:=e.1 (by decide);clear e;go_wp2_with fail;all_goals (try rw[d])
   all_goals (try clear d)
   all_goals go_ret2
   all_goals exact⟨rfl,j⟩
  )
 ·cases V with
  |false=>
   obtain rfl:E=1:=by rw[i];rfl
   clear i;cases s
   all_goals (
    obtain rfl:n=0:=e.1 (by decide);clear e;go_wp2_with fail;all_goals (try rw[d])
    all_goals (try clear d)
    all_goals go_ret2
    all_goals exact⟨rfl,j⟩
   )
  |true=>
   cases s with
   |false=>
    obtain rfl:E=1:=by rw[i];rfl
    clear i;obtain rfl:n=0:=e.1 (by decide);clear e;go_wp2_with fail;all_goals (try rw[d])
    all_goals (try clear d)
    all_goals go_ret2
    all_goals exact⟨rfl,j⟩
   |true=>
    obtain rfl:E=5:=by rw[i];rfl
    clear i;obtain rfl:n=0:=e.1 (by decide);clear e;go_wp2_with fail;all_goals (try rw[d])
    all_goals (try clear d)
    all_goals go_ret2
    all_goals exact⟨rfl,j⟩
theorem H8 (ls:List (List UInt8)) (n:Int) (a:uN (aN ls) (gB [] (-1)) (fL []) (gB [] 1) (fL []) (iC ls [] []) n) (v:Value) (w:World) (hv:StrsAt w v ls) (d:ls.length<=7) (e:∀l∈ls,l.length<=6):
  Calls Tryz.prog 26 #[v] w (pM w n (iC ls [] [])):=by
 obtain⟨A,c,rfl,g⟩:=hv.form;have h:=zL ls [] [] n a (.slice A ls.length c) w hv d e (by decide) (by decide);unfold pM at *;clear a;generalize iC ls [] []=E at *;go_enter Tryz.func26,Tryz.ntmps26;go_wp2_with fail;refine h.mono ?_;rintro f i ⟨rfl,b⟩;go_wp2_with fail;go_ret2;exact⟨rfl,b⟩
def gR (n:Nat) (ls:List (List UInt8)):Bool:=ls.all (fun l=>decide (l.length<=n))
theorem H2 (n:Nat) (ls:List (List UInt8)) (v:Value) (w:World) (hv:StrsAt w v ls) (hn:n<=1073741824) (F:ls.length<=1073741824) (x:∀l∈ls,l.length<=9223372036854775807):
  Calls Tryz.prog 9 #[.int .i64 n,v] w fun e w'=>e= .returned (.bool (gR n ls))∧w=w':=by
 obtain⟨A,c,rfl,B⟩:=hv.form;go_enter Tryz.func9,Tryz.ntmps9;go_wp2_with fail;go_loopg [5] ls.length (fun k i wr=>∃j,Hid (j+k=ls.length)∧i= .int .i64 j∧Hid (gR n (ls.take j)=true)∧w=wr)
 case atStart=>exact⟨0,by unfold Hid;omega,rfl,rfl,rfl⟩
 case round=>
  obtain⟨j,d,rfl,f,rfl⟩:=hrel;have D:(0:Int)<=(j:Int):=by omega
  cases gk with
  |zero=>
   have g:j=ls.length:=d.out;have q:Hid (gR n ls=true):=by
    have:=f.out;rwa [g,List.take_length] at this
   subst g;go_wp2_with fail;go_ret;rw[q.out];exact⟨rfl,rfl⟩
  |succ k=>
   have u:j<ls.length:=by have:=d.out;omega
   have E:(j:Int)<(ls.length:Int):=by omega
   obtain⟨t,a⟩:∃t,ls[j]? =some t:=⟨_,aL u⟩;have o:gR n (ls.take (j+1))=decide (t.length<=n):=by
    unfold gR;rw[List.take_add_one,a,Option.toList_some,List.all_append];have:=f.out;unfold gR at this;rw[this];simp
   have m:¬t.length<=n->gR n ls=false:=fun h=>by
    unfold gR;rw[List.all_eq_false];exact⟨t,cH a,by simpa using h⟩
   have s:=aB o;have r:=aB m;have H:=x t (cH a);obtain⟨b,I,rfl,z,C⟩:=hv.at_ a;have G:(⟨t.toArray⟩:ByteArray).size=t.length:=by simp[ByteArray.size]
   clear o m a f;by_cases p:t.length<=n
   ·have y:¬(n:Int)<(t.length:Int):=by omega
    go_wp2_with fail;go_roundg k
    case rel=>exact⟨j+1,by have:=d.out;unfold Hid;omega,by go_num,by unfold Hid;rw[s.out];exact decide_eq_true p,rfl⟩
    case measure=>omega
   ·have y:(n:Int)<(t.length:Int):=by omega
    go_wp2_with fail;go_ret;rw[r.out p];exact⟨rfl,rfl⟩
theorem H4:d7 [48]=some 0:=by decide
theorem VZ:d7 [49]=some 1:=by decide
theorem WA:d7 [45,50]=some (-2):=by decide
