/-
  Contracts, laws: Mul64, MulA, MulP.
-/
import Derived.Test.YthfnenohhindpaaGreatDoorC07
import Derived.Test.YthfnenohhindpaaGreatDoorC09
set_option linter.all false
set_option maxHeartbeats 8000000
set_option maxRecDepth 100000
namespace Go.Proofs.YthfnenohhindpaaGreatDoor
open Go.RowKit Sos
def Split (t s c:Int):Prop:=s+aA*c=t∧0<=s∧s<aA
theorem gE (t:Int):∃s c,Split t s c:=⟨dE t,fN t,wC t,(j8 t).1,(j8 t).2⟩
theorem Split.lo {t s c:Int} (h:Split t s c):dE t=s:=by
 obtain⟨a,b,d⟩:=h;unfold dE;unfold aA at *;omega
theorem Split.hi {t s c:Int} (h:Split t s c):fN t=c:=by
 obtain⟨a,b,d⟩:=h;unfold fN;unfold aA at *;omega
theorem Split.hi_bd {t s c:Int} (h:Split t s c) (a:0<=t) {m:Int} (b:t<aA*m):0<=c∧c<m:=by
 rw[<-h.hi];exact qB a b
theorem oT (x y s k:Int) (a:0<=x∧x<aA) (b:0<=y∧y<aA) (h:Split (x+y) s k) (w:World):
  (callFunc 200 #[.int .u64 x,.int .u64 y,.int .u64 0]).run Tryz.prog w= .ok (.value (.tuple #[.int .u64 s,.int .u64 k])) w:=by
 rw[L4 x y a.1 b.1 a.2 b.2,h.lo,h.hi]
def Diff (t u d k:Int):Prop:=d=t-u+aA*k∧0<=d∧d<aA∧(k=0∨k=1)
theorem qD {t u:Int} (a:0<=t) (b:t<aA) (c:0<=u) (e:u<=aA):∃d k,Diff t u d k:=
 ⟨dE (t-u),gO t u,wD a b c e,(j8 _).1,(j8 _).2,by unfold gO;split<;>simp⟩
theorem Diff.lo {t u d k:Int} (h:Diff t u d k) (f:0<=t) (g:t<aA) (i:0<=u) (j:u<=aA):dE (t-u)=d:=by
 obtain⟨a,b,c,e⟩:=h;rw[wD f g i j,a];unfold gO;unfold aA at *;split<;>omega
theorem Diff.bo {t u d k:Int} (h:Diff t u d k) (f:0<=t) (g:t<aA) (i:0<=u) (j:u<=aA):gO t u=k:=by
 obtain⟨a,b,c,e⟩:=h;unfold gO;unfold aA at *;split<;>omega
theorem sP (x y c d k:Int) (a:0<=x∧x<aA) (e:0<=y∧y<aA) (b:0<=c∧c<=1) (h:Diff x (y+c) d k) (w:World):
  (callFunc 217 #[.int .u64 x,.int .u64 y,.int .u64 c]).run Tryz.prog w= .ok (.value (.tuple #[.int .u64 d,.int .u64 k])) w:=by
 rw[sO x y c a.1 e.1 b.1 b.2 a.2 e.2,show x-y-c=x-(y+c) by omega,h.lo a.1 a.2 (by omega) (by omega),h.bo a.1 a.2 (by omega) (by omega)]
theorem LJ (x y d k:Int) (a:0<=x∧x<aA) (b:0<=y∧y<aA) (h:Diff x y d k) (w:World):
  (callFunc 217 #[.int .u64 x,.int .u64 y,.int .u64 0]).run Tryz.prog w= .ok (.value (.tuple #[.int .u64 d,.int .u64 k])) w:=by
 rw[L6 x y a.1 b.1 a.2 b.2,h.lo a.1 a.2 (by omega) (by omega),h.bo a.1 a.2 (by omega) (by omega)]
theorem lV (x y s k:Int) (b:0<=x∧x<aA) (c:0<=y∧y<aA) (h:Split (x*y) s k) (w:World):
  Calls Tryz.prog 216 #[.int .u64 x,.int .u64 y] w fun e w'=>e= .returned (.tuple #[.int .u64 k,.int .u64 s])∧w=w':=by
 rw[<-h.lo,<-h.hi];unfold dE fN;unfold aA at b c;obtain⟨x,rfl⟩:=Int.eq_ofNat_of_zero_le b.1;obtain⟨y,rfl⟩:=Int.eq_ofNat_of_zero_le c.1;refine(Tryz.bits_Mul64 x y (by omega) (by omega) w).mono fun e w' a=>⟨?_,a.2.symm⟩;rw[a.1,<-Int.natCast_mul];rfl
theorem jO {x y m n:Int} (b:0<=x) (c:x<=m) (a:0<=y) (d:y<=n):0<=x*y∧x*y<=m*n:=
 ⟨Int.mul_nonneg b a,Int.mul_le_mul c d a (by omega)⟩
theorem kJ {x y c z:Int} (a:0<=x∧x<aA) (b:0<=y∧y<aA) (d:0<=c∧c<aA) (f:0<=z∧z<aA):0<=z+x*y+c∧z+x*y+c<aA*aA:=by
 have:=jO a.1 (show x<=aA-1 by omega) b.1 (show y<=aA-1 by omega);have e:(aA-1)*(aA-1)=aA*aA-2*aA+1:=by rfl
 omega
theorem LE {zs xs:List Int} {k:Nat} {c y H L C1 d C2 a T:Int} (j:k<zs.length) (l:k<xs.length) (f:Split (xs.getD k 0*y) L H) (g:Split (L+c) d C1) (i:Split (zs.getD k 0+d) a C2)
  (h:aF aA zs+c*aA^k=T+aF aA (xs.take k)*y):
  aF aA (zs.set k a)+(H+C1+C2)*aA^(k+1)=T+aF aA (xs.take (k+1))*y:=by
 have m:=f.1;have n:=g.1;have o:=i.1;rw[lG _ _ _ _ j,gY _ _ _ l,Int.pow_succ];generalize zs.getD k 0=z at *;generalize xs.getD k 0=x at *;generalize aA^k=p at *;generalize aF aA zs=s at *;generalize aF aA (xs.take k)=u at *;generalize aA=b at *;have e:a+b*(H+C1+C2)=z+x*y+c:=by grind
 have q:p*(a+b*(H+C1+C2))=p*(z+x*y+c):=by rw[e]
 grind
theorem LF {x y c z H L C1 a C2 h:Int} (f:0<=x∧x<aA) (g:0<=y∧y<aA) (i:0<=c∧c<aA) (j:0<=z∧z<aA) (b:Split (x*y) L H) (d:Split (L+c) a C1) (e:Split (z+a) h C2):
  0<=H∧H<aA∧0<=C1∧C1<=1∧0<=C2∧C2<=1∧H+C1<aA∧H+C1+C2<aA:=by
 have t:=kJ f g i j;have o:=b.1;have q:=d.1;have r:=e.1;have k:=b.2;have l:=d.2;have n:=e.2
 have m:=jO f.1 (show x<=aA-1 by omega) g.1 (show y<=aA-1 by omega);generalize x*y=p at *;have u:aA*aA=aA*18446744073709551616:=rfl;have s:(aA-1)*(aA-1)=aA*aA-2*aA+1:=by rfl
 unfold aA at *;omega
theorem CE (g off:Nat) (zs:List Int) (cz:Nat) (A:Option Addr) (xs:List Int) (Z n:Nat) (y:Int) (w:World) (P:zs.length=n) (M:xs.length=n)
  (hz:Cells .u64 w g off zs) (ac:Soft w g) (hb:n*8<=281474976710656) (hx:Rd .u64 w A xs)
  (v:∀b o,A=some ⟨b,o,none⟩->0<n->b≠g) (hZ:InR aA zs) (hX:InR aA xs) (N:0<=y∧y<aA):
  Calls Tryz.prog 195 #[.slice (some ⟨g,off,none⟩) n cz,.slice A n Z,.int .u64 y] w fun e w'=>
   ∃ts c,e= .returned (.int .u64 c)∧0<=c∧c<aA∧ts.length=n∧InR aA ts∧aF aA ts+c*aA^n=aF aA zs+aF aA xs*y∧Cells .u64 w' g off ts∧Only g off n w w':=by
 have Y:=aB P;have a:=aB M;clear P M;go_enter Tryz.func195,Tryz.ntmps195;go_wp2
 go_loopw [7,16] (fun t i wr=>∃(k:Nat) (ts:List Int) (c:Int),k<=n∧i= .int .i64 k∧t= .int .u64 c∧0<=c∧c<aA∧Hid (ts.length=n)∧InR aA ts∧
   Hid (aF aA ts+c*aA^k=aF aA zs+aF aA (xs.take k)*y)∧Cells .u64 wr g off ts∧Only g off n w wr) (fun _ i _=>n-(intOf i).toNat)
 case atStart=>exact⟨0,zs,0,Nat.zero_le _,rfl,rfl,by decide,by decide,Y,hZ,by simp[Hid],hz,Only.refl _ _ _ _⟩
 case round=>
  obtain⟨k,ts,c,hk,rfl,rfl,s,u,m,B,I,p,d⟩:=hrel;by_cases af:k<n
  ·obtain⟨b,o,rfl,ae,J⟩:=(d.rd hx (fun b o e h=>v b o e (by have:=a.out;omega))).at_ (by have:=a.out;omega);have r:=J k (by have:=a.out;omega);have h2:=p k (by have:=m.out;omega);have hf:=(d.soft ac).free (off+k);have D:=B.getD aP k;have E:=hX.getD aP k;have R:=aB p;have HN:=aB v;have S:=aB d;obtain⟨L,H,f⟩:=gE (xs.getD k 0*y);obtain⟨q,C1,j⟩:=gE (L+c);obtain⟨C,C2,l⟩:=gE (ts.getD k 0+q);have G:=LE (T:=aF aA zs) (show k<ts.length by have:=m.out;omega) (show k<xs.length by have:=a.out;omega) f j l I.out;have ab:=LF E N ⟨s,u⟩ D f j l;generalize K:xs.getD k 0=x at *;generalize O:ts.getD k 0=z at *;have HX:=aB K;have ad:=aB O;have U:=aB G;have V:=aB f;have W:=aB j;have X:=aB l;have d1:=f.2;have d2:=j.2;have F:=l.2
   obtain⟨q0,q1,q2,q3,q4,q5,q6,Q⟩:=ab;have q8:H+C1<=18446744073709551615:=by unfold aA at q6;omega
   have q9:H+C1+C2<=18446744073709551615:=by unfold aA at Q;omega
   clear p J v d K O G f j l
   go_wp2_with (first
    |(go_at_call 216;refine(lV x y L H E N V.out _).mono ?_;rintro e w' ⟨rfl,rfl⟩)
    |simp only[oT L c q C1 d1 ⟨s,u⟩ W.out]
    |simp only[oT z q C C2 D d2 X.out])
   go_roundw
   case rel=>
    refine⟨k+1,ts.set k C,H+C1+C2,by omega,by go_num,rfl,by omega,Q,?_,B.set F.1 F.2 k,U,R.out.set (by have:=m.out;omega) _,S.out.set (by omega) _⟩;have:=m.out;simpa [Hid] using this
   case measure=>simp[intOf];omega
  ·obtain rfl:k=n:=by omega
   go_wp2;go_ret;refine⟨ts,c,rfl,s,u,m.out,B,?_,p,d⟩;have r:=I.out;rw[cA (by have:=a.out;omega)] at r;exact r
theorem LG {zs xs:List Int} {k:Nat} {c y H L C1 d C2 a T:Int} (j:k<zs.length) (l:k<xs.length) (f:Split (xs.getD k 0*y) L H) (g:Split (L+c) d C1) (i:Diff (zs.getD k 0) d a C2)
  (h:aF aA zs-c*aA^k=T-aF aA (xs.take k)*y):
  aF aA (zs.set k a)-(H+C1+C2)*aA^(k+1)=T-aF aA (xs.take (k+1))*y:=by
 have m:=f.1;have n:=g.1;have o:=i.1;rw[lG _ _ _ _ j,gY _ _ _ l,Int.pow_succ];generalize zs.getD k 0=z at *;generalize xs.getD k 0=x at *;generalize aA^k=p at *;generalize aF aA zs=s at *;generalize aF aA (xs.take k)=u at *;generalize aA=b at *;have e:a-b*(H+C1+C2)=z-x*y-c:=by grind
 have q:p*(a-b*(H+C1+C2))=p*(z-x*y-c):=by rw[e]
 grind
theorem LH {x y c z H L C1 a C2 f:Int} (g:0<=x∧x<aA) (h:0<=y∧y<aA) (r:0<=c∧c<aA) (s:0<=z∧z<aA) (b:Split (x*y) L H) (d:Split (L+c) a C1) (e:Diff z a f C2):
  0<=H∧H<aA∧0<=C1∧C1<=1∧0<=C2∧C2<=1∧H+C1<aA∧H+C1+C2<aA:=by
 have l:=b.1;have n:=d.1;have o:=e.1;have i:=b.2;have j:=d.2;have k:=e.2
 have m:=jO g.1 (show x<=aA-1 by omega) h.1 (show y<=aA-1 by omega);generalize x*y=p at *;have q:(aA-1)*(aA-1)=aA*18446744073709551616-2*aA+1:=by rfl
 unfold aA at *;omega
theorem LI (g off:Nat) (zs:List Int) (cz:Nat) (A:Option Addr) (xs:List Int) (Z n:Nat) (y:Int) (w:World) (P:zs.length=n) (M:xs.length=n)
  (hz:Cells .u64 w g off zs) (ac:Soft w g) (hb:n*8<=281474976710656) (hx:Rd .u64 w A xs)
  (B:∀b o,A=some ⟨b,o,none⟩->0<n->b≠g) (hZ:InR aA zs) (hX:InR aA xs) (N:0<=y∧y<aA):
  Calls Tryz.prog 244 #[.slice (some ⟨g,off,none⟩) n cz,.slice A n Z,.int .u64 y] w fun e w'=>
   ∃ts c,e= .returned (.int .u64 c)∧0<=c∧c<aA∧ts.length=n∧InR aA ts∧aF aA ts-c*aA^n=aF aA zs-aF aA xs*y∧Cells .u64 w' g off ts∧Only g off n w w':=by
 have Y:=aB P;have f:=aB M;clear P M;go_enter Tryz.func244,Tryz.ntmps244;go_wp2
 go_loopw [7,16] (fun t i wr=>∃(k:Nat) (ts:List Int) (c:Int),k<=n∧i= .int .i64 k∧t= .int .u64 c∧0<=c∧c<aA∧Hid (ts.length=n)∧InR aA ts∧
   Hid (aF aA ts-c*aA^k=aF aA zs-aF aA (xs.take k)*y)∧Cells .u64 wr g off ts∧Only g off n w wr) (fun _ i _=>n-(intOf i).toNat)
 case atStart=>exact⟨0,zs,0,Nat.zero_le _,rfl,rfl,by decide,by decide,Y,hZ,by simp[Hid],hz,Only.refl _ _ _ _⟩
 case round=>
  obtain⟨k,ts,c,hk,rfl,rfl,u,v,m,C,I,r,j⟩:=hrel;by_cases af:k<n
  ·obtain⟨b,o,rfl,ae,J⟩:=(j.rd hx (fun b o e h=>B b o e (by have:=f.out;omega))).at_ (by have:=f.out;omega);have s:=J k (by have:=f.out;omega);have h2:=r k (by have:=m.out;omega);have hf:=(j.soft ac).free (off+k);have q:=C.getD aP k;have E:=hX.getD aP k;have R:=aB r;have HN:=aB B;have S:=aB j;obtain⟨L,H,l⟩:=gE (xs.getD k 0*y);obtain⟨D,C1,a⟩:=gE (L+c);obtain⟨p,C2,d⟩:=qD q.1 q.2 a.2.1 (Int.le_of_lt a.2.2);have G:=LG (T:=aF aA zs) (show k<ts.length by have:=m.out;omega) (show k<xs.length by have:=f.out;omega) l a d I.out;have ab:=LH E N ⟨u,v⟩ q l a d;generalize K:xs.getD k 0=x at *;generalize O:ts.getD k 0=z at *;have HX:=aB K;have ad:=aB O;have U:=aB G;have V:=aB l;have W:=aB a;have X:=aB d;have d1:=l.2;have d2:=a.2;have F:0<=p∧p<aA:=⟨d.2.1,d.2.2.1⟩
   obtain⟨q0,q1,q2,q3,q4,q5,q6,Q⟩:=ab;have q8:H+C1<=18446744073709551615:=by unfold aA at q6;omega
   have q9:H+C1+C2<=18446744073709551615:=by unfold aA at Q;omega
   clear r J B j K O G l a d
   go_wp2_with (first
    |(go_at_call 216;refine(lV x y L H E N V.out _).mono ?_;rintro e w' ⟨rfl,rfl⟩)
    |simp only[oT L c D C1 d1 ⟨u,v⟩ W.out]
    |simp only[LJ z D p C2 q d2 X.out])
   go_roundw
   case rel=>
    refine⟨k+1,ts.set k p,H+C1+C2,by omega,by go_num,rfl,by omega,Q,?_,C.set F.1 F.2 k,U,R.out.set (by have:=m.out;omega) _,S.out.set (by omega) _⟩;have:=m.out;simpa [Hid] using this
   case measure=>simp[intOf];omega
  ·obtain rfl:k=n:=by omega
   go_wp2;go_ret;refine⟨ts,c,rfl,u,v,m.out,C,?_,r,j⟩;have s:=I.out;rw[cA (by have:=f.out;omega)] at s;exact s
theorem nN (n k:Nat):aF aA ((dg n).take k)=(n%BN^k:Nat):=by
 rcases Nat.lt_or_ge k (nl n) with a|a
 ·have h:=j6 aA (dg n) k (by rw[aJ];omega);rw[cB] at h;have c:=eQ aP ((bV n).take k);have b:=fZ aP ((bV n).take k);rw[aZ,aJ,Nat.min_eq_left (by omega)] at b;rw[Int.natCast_emod,gK,h,Int.add_mul_emod_self_left,Int.emod_eq_of_lt c b]
 ·rw[cA (by rw[aJ];exact a),cB,Nat.mod_eq_of_lt];exact aU (cJ n) (cE (by decide) a)
theorem qC (n k:Nat):aF aA ((dg n).drop k)=(n/BN^k:Nat):=by
 rcases Nat.lt_or_ge k (nl n) with a|a
 ·have h:=j6 aA (dg n) k (by rw[aJ];omega);rw[cB] at h;have c:=eQ aP ((bV n).take k);have b:=fZ aP ((bV n).take k);rw[aZ,aJ,Nat.min_eq_left (by omega)] at b;have d:=lF aP k;rw[Int.natCast_ediv,gK,h,Int.add_mul_ediv_left _ _ (by omega),Int.ediv_eq_zero_of_lt c b,Int.zero_add]
 ·rw[List.drop_of_length_le (by rw[aJ];exact a),Nat.div_eq_of_lt]
  ·rfl
  ·exact aU (cJ n) (cE (by decide) a)
theorem L8 {zs:List Int} (h:iF zs) (k:Nat):iF (zs.drop k):=by
 unfold iF at *;rw[List.getLast?_drop];split
 ·simp
 ·exact h
theorem oR (n k:Nat):(dg n).drop k=dg (n/BN^k):=sI ⟨(bV n).drop k,L8 (sH n).2 k⟩ (qC n k)
theorem LA (n k:Nat):trimL ((dg n).take k)=dg (n%BN^k):=lT ((bV n).take k) (nN n k)
theorem iQ (n k:Nat):nl (n/BN^k)=nl n-k:=by rw[<-aJ,<-oR,List.length_drop,aJ]
theorem nO (n k:Nat):nl (n%BN^k)<=min k (nl n):=by
 rw[<-aJ,<-LA];have:=lU ((dg n).take k);rw[aZ,aJ] at this;exact this
theorem LB (p s b:Nat) (j:0<b):
  p*s=(p%b)*(s%b)+b*((p%b+p/b)*(s%b+s/b)-(p%b)*(s%b)-(p/b)*(s/b))+b*b*((p/b)*(s/b))∧
   (p%b)*(s%b)<=(p%b+p/b)*(s%b+s/b)∧(p/b)*(s/b)<=(p%b+p/b)*(s%b+s/b)-(p%b)*(s%b):=by
 have f:=Nat.mod_add_div p b;have g:=Nat.mod_add_div s b;generalize p%b=a at *;generalize p/b=c at *;generalize s%b=d at *;generalize s/b=e at *;have i:(a+c)*(d+e)=a*d+c*e+(a*e+c*d):=by grind
 have h:(a+c)*(d+e)-a*d-c*e=a*e+c*d:=by omega
 rw[h];refine⟨?_,by omega,by omega⟩;rw[<-f,<-g];grind
theorem CD {z m t:Int} {k n:Nat} (zs:List Int) (d:InR aA zs) (b:k<=zs.length) (hn:zs.length=n) (hv:aF aA zs+aA^k*m=t) (c:t<aA^n):aF aA (zs.drop k)+m<aA^(n-k):=by
 rw[j6 aA zs k b] at hv;have f:=eQ aP (d.take k);have g:=lF aP k;have e:aA^n=aA^k*aA^(n-k):=by rw[<-Int.pow_add];congr 1;omega
 rw[e] at c;have a:aA^k*(aF aA (zs.drop k)+m)<aA^k*aA^(n-k):=by rw[Int.mul_add];omega
 exact Int.lt_of_mul_lt_mul_left a (by omega)
def patch (zs ts:List Int) (k:Nat):List Int:=zs.take k++(ts++zs.drop (k+ts.length))
theorem iG {zs ts:List Int} {k:Nat} (h:k+ts.length<=zs.length):(patch zs ts k).length=zs.length:=by simp[patch];omega
theorem nQ {zs ts:List Int} {b:Int} (a:InR b zs) (c:InR b ts) (k:Nat):InR b (patch zs ts k):=(a.take k).append (c.append (a.drop _))
theorem wE {zs ts:List Int} {k j:Nat} (h:k+ts.length<=zs.length) (b:k+ts.length<=j):(patch zs ts k).getD j 0=zs.getD j 0:=by
 unfold patch;have a:(zs.take k).length=k:=by rw[aZ];omega
 simp only[dF];rw[dS (by omega),a,dS (by omega),List.getElem?_drop];congr 2;omega
theorem oS {zs ts:List Int} {k:Nat} (h:k+ts.length<=zs.length):aF aA (patch zs ts k)=aF aA zs+aA^k*(aF aA ts-aF aA ((zs.drop k).take ts.length)):=by
 unfold patch;have a:(zs.take k).length=k:=by rw[aZ];omega
 rw[iP,iP,a,j6 aA zs k (by omega),j6 aA (zs.drop k) ts.length (by rw[List.length_drop];omega),List.drop_drop];grind
theorem Only.patch {g k m:Nat} {f b:World} {zs ts:List Int} (e:Only g k m f b) (c:Cells .u64 f g 0 zs) (j:ts.length=m) (h:Cells .u64 b g k ts) (l:k+m<=zs.length):
  Cells .u64 b g 0 (patch zs ts k):=by
 subst j;have d:(zs.take k).length=k:=by rw[aZ];omega
 refine Cells.append (fun i a=> ?_) (Cells.append (by rw[d,aS];exact h) (fun i a=> ?_))
 ·rw[e.rest (0+i) (.inl (by omega))];exact c.take k i a
 ·rw[d,aS,e.rest _ (.inr (by omega))];have:=c.drop (k+ts.length) i a;rwa [aS] at this
theorem LC {zs ts:List Int} {k m n:Nat} {c y P:Int} (f:zs.length=n) (b:k+m<n) (d:ts.length=m) (g:aF aA ts+c*aA^m=aF aA ((zs.drop k).take m)+P*y) (a:zs.getD (k+m) 0=0):
  aF aA ((patch zs ts k).set (k+m) c)=aF aA zs+aA^k*(P*y):=by
 subst f d;rw[lG _ _ _ _ (by rw[iG (by omega)];exact b),oS (by omega),wE (by omega) aE,a];have e:aA^(k+ts.length)=aA^k*aA^ts.length:=Int.pow_add _ _ _;rw[e];grind
theorem wF (n:Nat) (ys:List Int) (h:ys.length<=n):cK (List.replicate n 0) ys=ys++List.replicate (n-ys.length) 0:=by
 unfold cK;rw[cN,cA h,List.drop_replicate]
theorem LD {lo hi h n:Nat} (f:nl lo<=2*h) (k:2*h<=n) (l:nl hi<=n-2*h):
  let zs:=cK (List.replicate n 0) (dg lo)
  let us:=cK (zs.drop (2*h)) (dg hi)
  us.length=n-2*h∧InR aA us∧InR aA zs∧zs.length=n∧aF aA (patch zs us (2*h))=lo+aA^(2*h)*hi:=by
 intro zs us;have e:zs=dg lo++List.replicate (n-nl lo) 0:=wF n (dg lo) (by rw[aJ];omega);have a:zs.drop (2*h)=List.replicate (n-2*h) 0:=by
  rw[e,List.drop_append,List.drop_of_length_le (by rw[aJ];exact f),aJ,List.nil_append,List.drop_replicate];congr 1;omega
 have c:zs.length=n:=by show(cK _ _).length=n;rw[j5,cN]
 have d:us.length=n-2*h:=by show(cK _ _).length=_;rw[j5,List.length_drop,c]
 have b:InR aA zs:=(bV lo).take _ |>.append ((InR.replicate aP _).drop _);have g:InR aA us:=((bV hi).take _).append ((b.drop _).drop _);refine⟨d,g,b,c,?_⟩;have i:aF aA zs=lo:=by show aF aA (cK _ _)=_;rw[jP _ _ (by rw[aJ];omega),cB]
 have j:aF aA us=hi:=by
  show aF aA (cK (zs.drop (2*h)) (dg hi))=_
  rw[a,jP _ _ (by rw[aJ];omega),cB]
 rw[oS (by omega),d,a,i,j];rw[cA (by simp),jN];simp
