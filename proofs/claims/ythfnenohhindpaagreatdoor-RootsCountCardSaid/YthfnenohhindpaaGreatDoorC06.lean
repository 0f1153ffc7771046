/-
  Contracts, laws: WordsA, WordsB.
-/
import Derived.Test.YthfnenohhindpaaGreatDoorC02
import Derived.Test.YthfnenohhindpaaGreatDoorC05
set_option linter.all false
set_option maxHeartbeats 8000000
set_option maxRecDepth 100000
namespace Go.Proofs.YthfnenohhindpaaGreatDoor
open Go.RowKit Sos
theorem L3 (A:Option Addr) (zs:List Int) (c:Nat) (w:World) (k:Rd .u64 w A zs) (p:zs.length<=c) (r:zs.length*8<=281474976710656):
  Calls Tryz.prog 172 #[.slice A zs.length c] w fun e w'=>e= .returned (.slice A (trimL zs).length c)∧w=w':=by
 go_enter Tryz.func172,Tryz.ntmps172;go_wp2;go_loop [3] (fun i=>∃n:Nat,n<=zs.length∧i= .int .i64 n∧∀j,n<=j->zs.getD j 0=0) (fun i=>(intOf i).toNat)
 case atStart=>exact⟨zs.length,aE,rfl,fun j g=>by simp[g]⟩
 case round=>
  obtain⟨n,hn,rfl,h⟩:=hrel;have a:=aB h;clear h;by_cases m:0<n
  ·obtain⟨b,s,rfl,o,f⟩:=k.at_ (by omega);have q:=f (n-1) (by omega);have l:=aB f;clear f;go_wp2
   ·have d:(zs[n-1]?.getD 0==0)=true:=by assumption
    go_round
    case rel=>
     refine⟨n-1,by omega,by go_num,fun j g=> ?_⟩;by_cases e:j=n-1
     ·subst e;simpa using d
     ·exact a.out j (by omega)
    case measure=>simp[intOf];omega
   ·have d:(zs[n-1]?.getD 0==0)=false:=by assumption
    go_ret;refine⟨?_,rfl⟩;have e:trimL zs=zs.take n:=BY hn (.inr (by simpa using d)) a.out;rw[e,aZ,Nat.min_eq_left hn];rfl
  ·obtain rfl:n=0:=by omega
   go_wp2;go_ret;refine⟨?_,rfl⟩;have e:trimL zs=zs.take 0:=BY (Nat.zero_le _) (.inl rfl) a.out;rw[e];rfl
theorem eM (A:Option Addr) (zs:List Int) (n c:Nat) (w:World) (hn:zs.length=n) (b:Rd .u64 w A zs) (a:n<=c) (d:n*8<=281474976710656):
  Calls Tryz.prog 172 #[.slice A n c] w fun e w'=>e= .returned (.slice A (trimL zs).length c)∧w=w':=by
 subst hn;exact L3 A zs c w b a (by omega)
theorem aP:(0:Int)<aA:=by decide
theorem wA:(1:Int)<aA:=by decide
theorem kI (zs:List Int) (i j:Nat) (v:Int) (h:i≠j):(zs.set i v).getD j 0=zs.getD j 0:=by
 simp only[dF,List.getElem?_set_ne h]
theorem wB {zs:List Int} {k:Nat} {c y T:Int} (a:k<zs.length) (h:aF aA zs+c*aA^k=T):
  aF aA (zs.set k (dE (zs.getD k 0+y+c)))+fN (zs.getD k 0+y+c)*aA^(k+1)=T+aA^k*y:=by
 have e:=wC (zs.getD k 0+y+c);rw[lG _ _ _ _ a,<-h,Int.pow_succ];generalize dE (zs.getD k 0+y+c)=l at *;generalize fN (zs.getD k 0+y+c)=m at *;generalize zs.getD k 0=z at *;generalize aA^k=p at *;generalize aF aA zs=s at *;generalize aA=b at *;have d:p*(l+b*m)=p*(z+y+c):=by rw[e]
 grind
theorem CA {zs:List Int} {k:Nat} {c y T:Int} (b:k<zs.length) (d:InR aA zs) (i:0<=y) (j:y<aA) (f:0<=c) (g:c<=1) (h:aF aA zs-c*aA^k=T):
  aF aA (zs.set k (dE (zs.getD k 0-y-c)))-gO (zs.getD k 0) (y+c)*aA^(k+1)=T-aA^k*y:=by
 have a:=d.getD aP k;have e:=wD a.1 a.2 (show 0<=y+c by omega) (show y+c<=aA by omega);rw[show zs.getD k 0-y-c=zs.getD k 0-(y+c) by omega,lG _ _ _ _ b,<-h,Int.pow_succ,e];generalize gO (zs.getD k 0) (y+c)=m;grind
theorem KZ {zs:List Int} {c T:Int} (b:InR aA zs) (f:0<=c) (g:c<=1) (h:aF aA zs+c*aA^zs.length=T) (e:T<aA^zs.length):aF aA zs=T:=by
 have d:=eQ aP b;have a:c=0∨c=1:=by omega
 rcases a with rfl|rfl
 ·simpa using h
 ·omega
theorem L0 {zs:List Int} {c T:Int} (b:InR aA zs) (f:0<=c) (g:c<=1) (h:aF aA zs-c*aA^zs.length=T) (e:0<=T):aF aA zs=T:=by
 have d:=fZ aP b;have a:c=0∨c=1:=by omega
 rcases a with rfl|rfl
 ·simpa using h
 ·omega
theorem L1 (g off:Nat) (xs:List Int) (J:Nat) (A:Option Addr) (ys:List Int) (W:Nat) (w:World)
  (hx:Cells .u64 w g off xs) (M:Soft w g) (ae:xs.length<=J) (hb:xs.length*8<=281474976710656) (O:Rd .u64 w A ys)
  (s:∀b o,A=some ⟨b,o,none⟩->0<ys.length->b≠g) (af:ys.length<=xs.length) (Y:InR aA xs) (Z:InR aA ys) (H:aF aA xs+aF aA ys<aA^xs.length):
  Calls Tryz.prog 197 #[.slice (some ⟨g,off,none⟩) xs.length J,.slice A ys.length W] w fun e w'=>e= .returned (.tuple #[])∧
   ∃zs,zs.length=xs.length∧InR aA zs∧aF aA zs=aF aA xs+aF aA ys∧Cells .u64 w' g off zs∧Only g off xs.length w w':=by
 go_enter Tryz.func197,Tryz.ntmps197;go_wp2
 go_loopw [4,10] (fun t i wr=>∃(k:Nat) (zs:List Int) (c:Int),k<=ys.length∧i= .int .i64 k∧t= .int .u64 c∧0<=c∧c<=1∧zs.length=xs.length∧InR aA zs∧
   Hid (aF aA zs+c*aA^k=aF aA xs+aF aA (ys.take k))∧Cells .u64 wr g off zs∧Only g off xs.length w wr) (fun _ i _=>ys.length-(intOf i).toNat)
 case atStart=>exact⟨0,xs,0,Nat.zero_le _,rfl,rfl,by decide,by decide,rfl,Y,by simp[Hid],hx,Only.refl _ _ _ _⟩
 case round=>
  obtain⟨k,zs,c,hk,rfl,rfl,l,n,h,f,j,d,a⟩:=hrel;by_cases G:k<ys.length
  ·obtain⟨b,o,rfl,ad,P⟩:=(a.rd O s).at_ (by omega);have h1:=P k G;have X:=d k (by omega);have hf:=(a.soft M).free (off+k);have C:=f.getD aP k;have T:=Z.getD aP k;have u:=aB d;have HN:=aB s;have z:=aB a;have q:=wB (y:=ys.getD k 0) (show k<zs.length by omega) j.out;have N:=gY aA ys k G;generalize r:zs.getD k 0=x at *;generalize Q:ys.getD k 0=y at *;have S:=aB r;have ac:=aB Q;have B:=aB q;have R:=aB N;obtain⟨D,E⟩:=C;obtain⟨U,V⟩:=T;clear d P s a r Q q N;go_wp2_with (simp only[sN x y c D U l n E V]);go_roundw
   case rel=>
    have p:=j8 (x+y+c);have F:=qB (x:=x+y+c) (m:=2) (by omega) (by omega);refine⟨k+1,zs.set k (dE (x+y+c)),fN (x+y+c),by omega,by go_num,rfl,F.1,by omega,by simpa using h,f.set p.1 p.2 k,?_,u.out.set (by omega) _,z.out.set (by omega) _⟩;have:=B.out;have:=R.out;unfold Hid;omega
   case measure=>simp[intOf];omega
  ·obtain rfl:k=ys.length:=by omega
   rw[List.take_length] at j;clear O s;go_wp2
   go_loopw [4,7] (fun t i wr=>∃(k:Nat) (zs:List Int) (c:Int),k<=xs.length∧i= .int .i64 k∧t= .int .u64 c∧0<=c∧c<=1∧zs.length=xs.length∧InR aA zs∧
     Hid (aF aA zs+c*aA^k=aF aA xs+aF aA ys)∧Cells .u64 wr g off zs∧Only g off xs.length w wr) (fun _ i _=>xs.length-(intOf i).toNat)
   case atStart=>exact⟨ys.length,zs,c,by omega,rfl,rfl,l,n,h,f,j,d,a⟩
   case round=>
    clear l n h f j d a;obtain⟨k,zs,c,hk,rfl,rfl,l,n,h,f,j,d,a⟩:=hrel;have L:c=0∨k=xs.length->aF aA zs=aF aA xs+aF aA ys:=by
     rintro (rfl|rfl)
     ·simpa using j.out
     ·exact KZ f l n (by rw[h];exact j.out) (by rw[h];exact H)
    have I:=aB L;have ab:=aB H;clear L H;by_cases K:c=0
    ·have v:=aB (I.out (.inl K));subst K;go_wp2;go_end0;exact⟨rfl,zs,h,f,v.out,d,a⟩
    ·obtain rfl:c=1:=by omega
     by_cases G:k<xs.length
     ·have X:=d k (by omega);have hf:=(a.soft M).free (off+k);have C:=f.getD aP k;have u:=aB d;have z:=aB a;have q:=wB (y:=0) (show k<zs.length by omega) j.out;generalize r:zs.getD k 0=x at *;have S:=aB r;have B:=aB q;obtain⟨D,E⟩:=C;clear d a r q;go_wp2_with (simp only[L5 x 1 D (by decide) (by decide) E]);go_roundw
      case rel=>
       have p:=j8 (x+1);have F:=qB (x:=x+1) (m:=2) (by omega) (by have:=wA;omega);refine⟨k+1,zs.set k (dE (x+1)),fN (x+1),by omega,by go_num,rfl,F.1,by omega,by simpa using h,f.set p.1 p.2 k,?_,u.out.set (by omega) _,z.out.set (by omega) _⟩;have:=B.out;unfold Hid;simpa using this
      case measure=>simp[intOf];omega
     ·obtain rfl:k=xs.length:=by omega
      have v:=aB (I.out (.inr rfl));go_wp2;go_end0;exact⟨rfl,zs,h,f,v.out,d,a⟩
theorem L2 (g off:Nat) (xs:List Int) (I:Nat) (A:Option Addr) (ys:List Int) (V:Nat) (w:World)
  (hx:Cells .u64 w g off xs) (L:Soft w g) (ae:xs.length<=I) (hb:xs.length*8<=281474976710656) (O:Rd .u64 w A ys)
  (r:∀b o,A=some ⟨b,o,none⟩->0<ys.length->b≠g) (af:ys.length<=xs.length) (X:InR aA xs) (Y:InR aA ys) (M:aF aA ys<=aF aA xs):
  Calls Tryz.prog 199 #[.slice (some ⟨g,off,none⟩) xs.length I,.slice A ys.length V] w fun e w'=>e= .returned (.tuple #[])∧
   ∃zs,zs.length=xs.length∧InR aA zs∧aF aA zs=aF aA xs-aF aA ys∧Cells .u64 w' g off zs∧Only g off xs.length w w':=by
 go_enter Tryz.func199,Tryz.ntmps199;go_wp2
 go_loopw [4,10] (fun t i wr=>∃(k:Nat) (zs:List Int) (c:Int),k<=ys.length∧i= .int .i64 k∧t= .int .u64 c∧0<=c∧c<=1∧zs.length=xs.length∧InR aA zs∧
   Hid (aF aA zs-c*aA^k=aF aA xs-aF aA (ys.take k))∧Cells .u64 wr g off zs∧Only g off xs.length w wr) (fun _ i _=>ys.length-(intOf i).toNat)
 case atStart=>exact⟨0,xs,0,Nat.zero_le _,rfl,rfl,by decide,by decide,rfl,X,by simp[Hid],hx,Only.refl _ _ _ _⟩
 case round=>
  obtain⟨k,zs,c,hk,rfl,rfl,l,m,j,d,h,f,a⟩:=hrel;by_cases G:k<ys.length
  ·obtain⟨b,o,rfl,ad,P⟩:=(a.rd O r).at_ (by omega);have h1:=P k G;have W:=f k (by omega);have Z:=(a.soft L).free (off+k);have B:=d.getD aP k;have E:=Y.getD aP k;have s:=aB f;have HN:=aB r;have v:=aB a;have p:=CA (y:=ys.getD k 0) (show k<zs.length by omega) d E.1 E.2 l m h.out;have N:=gY aA ys k G;generalize q:zs.getD k 0=x at *;generalize Q:ys.getD k 0=y at *;have S:=aB q;have ac:=aB Q;have z:=aB p;have R:=aB N;obtain⟨C,D⟩:=B;obtain⟨T,U⟩:=E;clear f P r a q Q p N;go_wp2_with (simp only[sO x y c C T l m D U]);go_roundw
   case rel=>
    have n:=j8 (x-y-c);have F:=CC x (y+c);refine⟨k+1,zs.set k (dE (x-y-c)),gO x (y+c),by omega,by go_num,rfl,F.1,by omega,by simpa using j,d.set n.1 n.2 k,?_,s.out.set (by omega) _,v.out.set (by omega) _⟩;have:=z.out;have:=R.out;unfold Hid;omega
   case measure=>simp[intOf];omega
  ·obtain rfl:k=ys.length:=by omega
   rw[List.take_length] at h;clear O r;go_wp2
   go_loopw [4,7] (fun t i wr=>∃(k:Nat) (zs:List Int) (c:Int),k<=xs.length∧i= .int .i64 k∧t= .int .u64 c∧0<=c∧c<=1∧zs.length=xs.length∧InR aA zs∧
     Hid (aF aA zs-c*aA^k=aF aA xs-aF aA ys)∧Cells .u64 wr g off zs∧Only g off xs.length w wr) (fun _ i _=>xs.length-(intOf i).toNat)
   case atStart=>exact⟨ys.length,zs,c,by omega,rfl,rfl,l,m,j,d,h,f,a⟩
   case round=>
    clear l m j d h f a;obtain⟨k,zs,c,hk,rfl,rfl,l,m,j,d,h,f,a⟩:=hrel;have K:c=0∨k=xs.length->aF aA zs=aF aA xs-aF aA ys:=by
     rintro (rfl|rfl)
     ·simpa using h.out
     ·exact L0 d l m (by rw[j];exact h.out) (by omega)
    have H:=aB K;have ab:=aB M;clear K M;by_cases J:c=0
    ·have u:=aB (H.out (.inl J));subst J;go_wp2;go_end0;exact⟨rfl,zs,j,d,u.out,f,a⟩
    ·obtain rfl:c=1:=by omega
     by_cases G:k<xs.length
     ·have W:=f k (by omega);have Z:=(a.soft L).free (off+k);have B:=d.getD aP k;have s:=aB f;have v:=aB a;have p:=CA (y:=0) (show k<zs.length by omega) d (by decide) (by decide) (by decide) (by decide) h.out;generalize q:zs.getD k 0=x at *;have S:=aB q;have z:=aB p;obtain⟨C,D⟩:=B;clear f a q p;go_wp2_with (simp only[L7 x 1 C (by decide) (by decide) D]);go_roundw
      case rel=>
       have n:=j8 (x-1);have F:=CC x 1;refine⟨k+1,zs.set k (dE (x-1)),gO x 1,by omega,by go_num,rfl,F.1,by omega,by simpa using j,d.set n.1 n.2 k,?_,s.out.set (by omega) _,v.out.set (by omega) _⟩;have:=z.out;unfold Hid;simpa using this
      case measure=>simp[intOf];omega
     ·obtain rfl:k=xs.length:=by omega
      have u:=aB (H.out (.inr rfl));go_wp2;go_end0;exact⟨rfl,zs,j,d,u.out,f,a⟩
theorem sM (g off n:Nat) (xs:List Int) (a:Nat) (A:Option Addr) (m:Nat) (ys:List Int) (c:Nat) (w:World) (hn:xs.length=n) (k:ys.length=m)
  (r:Cells .u64 w g off xs) (p:Soft w g) (i:n<=a) (h:n*8<=281474976710656) (s:Rd .u64 w A ys)
  (l:∀b o,A=some ⟨b,o,none⟩->0<m->b≠g) (j:m<=n) (d:InR aA xs) (f:InR aA ys) (q:aF aA xs+aF aA ys<aA^n):
  Calls Tryz.prog 197 #[.slice (some ⟨g,off,none⟩) n a,.slice A m c] w fun e w'=>e= .returned (.tuple #[])∧
   ∃zs,zs.length=n∧InR aA zs∧aF aA zs=aF aA xs+aF aA ys∧Cells .u64 w' g off zs∧Only g off n w w':=by
 subst hn k;exact L1 g off xs a A ys c w r p i h s l j d f q
theorem CB (g off n:Nat) (xs:List Int) (a:Nat) (A:Option Addr) (m:Nat) (ys:List Int) (c:Nat) (w:World) (hn:xs.length=n) (k:ys.length=m)
  (r:Cells .u64 w g off xs) (p:Soft w g) (i:n<=a) (h:n*8<=281474976710656) (s:Rd .u64 w A ys)
  (l:∀b o,A=some ⟨b,o,none⟩->0<m->b≠g) (j:m<=n) (d:InR aA xs) (f:InR aA ys) (q:aF aA ys<=aF aA xs):
  Calls Tryz.prog 199 #[.slice (some ⟨g,off,none⟩) n a,.slice A m c] w fun e w'=>e= .returned (.tuple #[])∧
   ∃zs,zs.length=n∧InR aA zs∧aF aA zs=aF aA xs-aF aA ys∧Cells .u64 w' g off zs∧Only g off n w w':=by
 subst hn k;exact L2 g off xs a A ys c w r p i h s l j d f q
