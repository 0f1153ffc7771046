/- Laws. -/
import Derived.Test.YtmiaanioldpfgaaGreatDoorX13
set_option linter.all false
set_option maxHeartbeats 8000000
set_option maxRecDepth 99999
namespace Go.Proofs.YtmiaanioldpfgaaGreatDoor
variable{P X Y Z l m vs xs zs:List Nat}{A B R V W a b c d h i j k n p q qt r s t u x y:Nat}
section
variable {α:Type}{P Q:List α}{x y:α}{i:Nat}
def zH(h:P.length=i):(P++x :: Q)[i]? =some x:=by subst h;rw[List.getElem?_append_right (Nat.le_refl _),Nat.sub_self];rfl
def N6(h:P.length=i):(P++x :: Q).set i y=(P++[y])++Q:=by
 subst h;rw[List.set_append_right _ _ (Nat.le_refl _),Nat.sub_self,List.set_cons_zero,List.append_assoc];rfl
def jR(h:P.length=i):(P++[x]).length=i+1:=by rw[List.length_append,h];rfl
end
def mE(x:Nat)(h:l.length=i):nv (l++[x])=nv l+aD^i*x:=by subst h;rw[mF,nv,rB,Nat.mul_zero,Nat.add_zero]
def Dg.app(h:Dg l)(k:Dg m):Dg (l++m):=fun d a=>(List.mem_append.1 a).elim (h d) (k d)
def Dg.snoc(h:Dg l)(b:x<aD):Dg (l++[x]):=h.app (fun d a=>by rw[List.mem_singleton.1 a];exact b)
def Dg.drop(h:Dg l)(n:Nat):Dg (l.drop n):=fun d a=>h d (List.mem_of_mem_drop a)
def iN(h:l.length<=i):nv (l.take i)=nv l:=by rw[List.take_of_length_le h]
def cB(l:List Nat)(i:Nat):Nat:=l.getD i 0
def m9(h:l[i]? =some d):cB l i=d:=by unfold cB;rw[List.getD_eq_getElem?_getD,h];rfl
def rA(h:l.length<=i):cB l i=0:=by unfold cB;rw[List.getD_eq_getElem?_getD,List.getElem?_eq_none h];rfl
def sM(h:Dg l)(i:Nat):cB l i<aD:=by
 by_cases a:i<l.length
 ·rw[m9 (List.getElem?_eq_getElem a)];exact h _ (List.getElem_mem a)
 ·rw[rA (by omega)];exact mV
def iR(l:List Nat)(i:Nat):nv (l.take (i+1))=nv (l.take i)+aD^i*cB l i:=by
 by_cases a:i<l.length
 ·rw[m9 (List.getElem?_eq_getElem a)];exact NW (List.getElem?_eq_getElem a)
 ·rw[rA (by omega),iN (by omega),iN (by omega),Nat.mul_zero,Nat.add_zero]
def N7(l:List Nat)(i:Nat):nv l=nv (l.take i)+aD^i*nv (l.drop i):=by
 by_cases h:i<=l.length
 ·conv=>lhs;rw[<-List.take_append_drop i l,mF,List.length_take,Nat.min_eq_left h]
 ·rw[List.drop_of_length_le (by omega),iN (by omega),rB,Nat.mul_zero,Nat.add_zero]
def zI(a:l.length=i)(h:nv l+aD^i*c=A)(b:s=c+q):nv (l++[s%aD])+aD^(i+1)*(s/aD)=A+aD^i*q:=by
 rw[mE _ a,Nat.pow_succ,Nat.mul_assoc,Nat.add_assoc,<-Nat.mul_add,Nat.mod_add_div,b,Nat.mul_add,<-h,Nat.add_assoc]
def zJ(a:l.length=i)(h:A+aD^i*b=nv l+B)(d:u+aD*c=x+p+b):A+aD^i*u+aD^(i+1)*c=nv (l++[x])+(B+aD^i*p):=by
 have e:aD^i*u+aD^(i+1)*c=aD^i*x+aD^i*p+aD^i*b:=by rw[Nat.pow_succ,Nat.mul_assoc,<-Nat.mul_add,d,Nat.mul_add,Nat.mul_add]
 rw[mE _ a];omega
def N9(g:a<aD)(j:b<aD)(k:c<aD)(l:x<aD):c+(a*b+x)<aD*aD∧(c+(a*b+x))/aD<aD:=by
 have e:a*b<=(aD-1)*(aD-1):=Nat.mul_le_mul (by omega) (by omega);have f:(aD-1)*(aD-1)+2*aD<=aD*aD+1:=by decide
 have d:c+(a*b+x)<aD*aD:=by omega
 exact⟨d,Nat.div_lt_of_lt_mul d⟩
def fqQ{r' o:Nat}(h:q*d+r'=r*aD+a):d*(q+aD*o)+r'=a+aD*(d*o+r):=by
 rw[Nat.mul_add,Nat.mul_add,<-Nat.mul_assoc,<-Nat.mul_assoc,Nat.mul_comm d q,Nat.mul_comm d aD,Nat.mul_comm aD r];omega
def dq1{P U:Nat}(f:0<P)(c:b*P<=V)(g:U<(W+1)*P)(k:qt*V<=U)(j:W<h*b):qt<h:=by
 have d:qt*b*P<=qt*V:=by rw[Nat.mul_assoc];exact Nat.mul_le_mul_left _ c
 have e:qt*b<W+1:=Nat.lt_of_mul_lt_mul_right (a:=P) (by omega);exact Nat.lt_of_mul_lt_mul_right (a:=b) (by omega)
def NC{P U:Nat}(l:0<P)(n:V<(a+1)*P)(m:W*P<=U)(p:U<(qt+1)*V)(e:h*a<=W)(o:h<=a):h<=qt+1:=by
 rcases Nat.lt_or_ge (qt+1) h with b|b
 ·obtain⟨g,rfl⟩:∃g,h=g+1:=⟨h-1,by omega⟩;have f:(qt+1)*V<=g*V:=Nat.mul_le_mul_right _ (by omega);have j:g*V<=g*((a+1)*P):=Nat.mul_le_mul_left _ (by omega);have k:(g+1)*a*P<=W*P:=Nat.mul_le_mul_right _ e;have c:(g+1)*a*P<g*(a+1)*P:=by rw[Nat.mul_assoc g];omega
  have d:(g+1)*a<g*(a+1):=Nat.lt_of_mul_lt_mul_right c;rw[Nat.add_mul,Nat.mul_add] at d;omega
 ·exact b
structure Est(u2 u1 v1 qt h r:Nat):Prop where
 eq:h*v1+r=u2*aD+u1
 lo:qt<=h
 hi:h<=aD+1
def fy4(h:l.length=p+2):nv l=nv (l.take p)+aD^p*(cB l (p+1)*aD+cB l p):=by
 rw[<-iN (l:=l) (i:=p+2) (by omega),iR,iR,Nat.pow_succ,Nat.mul_assoc,Nat.add_assoc,<-Nat.mul_add,Nat.add_comm (cB l p),Nat.mul_comm aD]
def zK(h:l.length=p+2):(cB l (p+1)*aD+cB l p)*aD^p<=nv l:=by rw[fy4 h,Nat.mul_comm];omega
def zL(b:Dg l)(h:l.length=p+2):nv l<(cB l (p+1)*aD+cB l p+1)*aD^p:=by
 have a:=nO (b.take p);rw[List.length_take,Nat.min_eq_left (by omega)] at a;rw[fy4 h,Nat.add_mul _ 1,Nat.one_mul,Nat.mul_comm (aD^p)];omega
def Est.start{u2 u1 v1 v0 u0 P U:Nat}(f:(v1*aD+v0)*P<=V)(l:U<((u2*aD+u1)*aD+u0+1)*P)(m:qt*V<=U)(hn:aD<=2*v1)(g:u2<=v1)(k:u1<aD)(j:u0<aD)(hv:v1<aD):
  Est u2 u1 v1 qt ((u2*aD+u1)/v1) ((u2*aD+u1)%v1)∧(u2*aD+u1)%v1<aD:=by
 have a:0<v1:=by unfold aD at hn;omega
 have e:=Nat.div_add_mod (u2*aD+u1) v1;have n:=Nat.mod_lt (u2*aD+u1) a;refine⟨⟨by rw[Nat.mul_comm];exact e,?_,Nat.le_of_lt_succ (Nat.div_lt_of_lt_mul ?_)⟩,by omega⟩
 ·rw[Nat.le_div_iff_mul_le a];have b:qt*(v1*aD*P)<=qt*V:=Nat.mul_le_mul_left _ (Nat.le_trans (Nat.mul_le_mul_right _ (Nat.le_add_right _ v0)) f);have c:qt*v1*(aD*P)<(u2*aD+u1+1)*(aD*P):=by
   have d:((u2*aD+u1)*aD+u0+1)*P<=((u2*aD+u1+1)*aD)*P:=Nat.mul_le_mul_right _ (by rw[Nat.add_mul _ 1];omega);rw[Nat.mul_assoc (u2*aD+u1+1)] at d;rw[Nat.mul_assoc,<-Nat.mul_assoc v1];omega
  have:=Nat.lt_of_mul_lt_mul_right c;omega
 ·have b:u2*aD<=v1*aD:=Nat.mul_le_mul_right _ g;rw[show v1*(aD+1).succ=v1*aD+2*v1 by rw[show(aD+1).succ=aD+2 from rfl,Nat.mul_add];omega];omega
section
variable {u2 u1 u0 v1 v0 qt h r P U V:Nat}
def Est.more(e:Est u2 u1 v1 qt h r)(c:0<P)(f:(v1*aD+v0)*P<=V)(d:U<((u2*aD+u1)*aD+u0+1)*P)(j:qt*V<=U)(m:qt<aD)(a:aD<=h∨r*aD+u0<h*v0):Est u2 u1 v1 qt (h-1) (r+v1)∧1<=h:=by
 have l:qt<h:=by
  rcases a with a|a
  ·omega
  ·refine dq1 c f d j ?_;rw[<-e.eq,Nat.add_mul,Nat.mul_add,<-Nat.mul_assoc];omega
 have b:=e.eq;have k:=e.hi;obtain⟨g,rfl⟩:∃g,h=g+1:=⟨h-1,by omega⟩;rw[Nat.add_mul,Nat.one_mul] at b;exact⟨⟨by rw[Nat.add_sub_cancel];omega,by omega,by omega⟩,by omega⟩
def Est.fin(e:Est u2 u1 v1 qt h r)(b:0<P)(d:V<(v1*aD+v0+1)*P)(c:((u2*aD+u1)*aD+u0)*P<=U)(f:U<(qt+1)*V)(a:0<v1)(j:h<aD)(g:h*v0<=r*aD+u0):qt<=h∧h<=qt+1:=by
 refine⟨e.lo,NC b d c f ?_ ?_⟩
 ·rw[<-e.eq,Nat.add_mul,Nat.mul_add,<-Nat.mul_assoc];omega
 ·have:1*aD<=v1*aD:=Nat.mul_le_mul_right _ a;omega
def Est.out(e:Est u2 u1 v1 qt h r)(c:u2<=v1)(f:u1<aD)(m:v0<aD)(b:aD<=r):h<aD∧h*v0<=r*aD+u0:=by
 have d:h<aD:=by
  have g:=e.eq;have j:u2*aD<=v1*aD:=Nat.mul_le_mul_right _ c;refine Nat.lt_of_mul_lt_mul_right (a:=v1) ?_;rw[Nat.mul_comm aD];omega
 refine⟨d,?_⟩;have k:h*v0<=aD*aD:=Nat.mul_le_mul (by omega) (by omega);have l:aD*aD<=r*aD:=Nat.mul_le_mul_right _ b;omega
end
def ND{X Y U:Nat}(d:X+B*t=U)(l:qt*V+b=U)(m:b<V)(e:V<B)(j:qt<=h)(g:h<=qt+1)(c:X+B*k=Y+h*V)(f:Y<B):
  h=qt∧t=k∧Y=b∨h=qt+1∧k=t+1∧Y+V=b+B:=by
 rcases(show h=qt∨h=qt+1 by omega) with rfl|rfl
 ·left;rcases Nat.lt_trichotomy t k with a|a|a
  ·have:B*(t+1)<=B*k:=Nat.mul_le_mul_left _ a;rw[Nat.mul_add] at this;omega
  ·subst a;exact⟨rfl,rfl,by omega⟩
  ·have:B*(k+1)<=B*t:=Nat.mul_le_mul_left _ a;rw[Nat.mul_add] at this;omega
 ·right;rw[Nat.add_mul,Nat.one_mul] at c;rcases Nat.lt_trichotomy (t+1) k with a|a|a
  ·have:B*(t+2)<=B*k:=Nat.mul_le_mul_left _ a;rw[Nat.mul_add] at this;omega
  ·subst a;rw[Nat.mul_add] at c;exact⟨rfl,rfl,by omega⟩
  ·have:B*k<=B*t:=Nat.mul_le_mul_left _ (by omega);omega
def NE{lo rs:List Nat}{X:Nat}(c:lo.length=j)(hn:xs.length=n)(b:nv xs+aD^n*t=qt*V+a)(d:nv zs=a)(hi:nv (lo++(xs++[t]))+V*aD^(j+1)*nv rs=X):
  nv (lo++zs)+V*aD^j*nv (qt :: rs)=X:=by
 rw[<-hi,mF,mF,mE t hn,b,d,c,nv,Nat.pow_succ];grind
def NF{lo:List Nat}(d:Dg lo)(a:lo.length=j)(e:nv zs<V):nv (lo++zs)<V*aD^j:=by
 have b:=nO d;have c:(nv zs+1)*aD^j<=V*aD^j:=Nat.mul_le_mul_right _ e;rw[mF,a];rw[a] at b;rw[Nat.add_mul,Nat.one_mul,Nat.mul_comm] at c;omega
def NG{lo:List Nat}(b:lo.length=j)(h:nv (lo++xs)<V*aD^(j+1)):nv xs<aD*V:=by
 rw[mF,b,Nat.pow_succ,show V*(aD^j*aD)=aD^j*(aD*V) by grind] at h;exact Nat.lt_of_mul_lt_mul_left (a:=aD^j) (by omega)
def NH(h:xs.length=p+2):((t*aD+cB xs (p+1))*aD+cB xs p)*aD^p<=nv (xs++[t]):=by
 have a:=zK h;rw[mE t h,Nat.pow_add,show aD^p*aD^2*t=t*aD*aD*aD^p by grind];rw[show((t*aD+cB xs (p+1))*aD+cB xs p)*aD^p=t*aD*aD*aD^p+(cB xs (p+1)*aD+cB xs p)*aD^p by grind];omega
def NJ(a:Dg xs)(h:xs.length=p+2):nv (xs++[t])<((t*aD+cB xs (p+1))*aD+cB xs p+1)*aD^p:=by
 have b:=zL a h;rw[mE t h,Nat.pow_add,show aD^p*aD^2*t=t*aD*aD*aD^p by grind];rw[show((t*aD+cB xs (p+1))*aD+cB xs p+1)*aD^p=t*aD*aD*aD^p+(cB xs (p+1)*aD+cB xs p+1)*aD^p by grind];omega
def NK(a:Dg vs)(h:xs.length=p+2)(hv:vs.length=p+2)(c:nv (xs++[t])<aD*nv vs):t<=cB vs (p+1):=by
 have e:=zL a hv;have d:=sM a p;rw[mE t h,show aD^(p+2)*t=t*(aD*aD*aD^p) by rw[Nat.pow_add,show aD^2=aD*aD from Nat.pow_two _];ac_rfl] at c;have f:(cB vs (p+1)*aD+cB vs p+1)*aD^p<=((cB vs (p+1)+1)*aD)*aD^p:=Nat.mul_le_mul_right _ (by rw[Nat.add_mul _ 1];omega);have b:t*(aD*aD*aD^p)<(cB vs (p+1)+1)*(aD*aD*aD^p):=by
  rw[show(cB vs (p+1)+1)*(aD*aD*aD^p)=aD*(((cB vs (p+1)+1)*aD)*aD^p) by ac_rfl];have:aD*nv vs<=aD*(((cB vs (p+1)+1)*aD)*aD^p):=Nat.mul_le_mul_left _ (by omega);omega
 have:=Nat.lt_of_mul_lt_mul_right b;omega
def NL(u:Dg Y)(g:Dg Z)(hn:Y.length=n+1)(G:Z.length=n+2)(B:cB Y n=y)(F:2147483648<=y*2^s)(o:y*2^s<4294967296)(I:s<32)(hv:nv Z=2^s*nv Y):
  ∃vs,Z=vs++[0]∧aW aV Z=vs∧vs.length=n+1∧Dg vs∧nv vs=2^s*nv Y∧aD<=2*cB vs n∧nv vs<aD^(n+1):=by
 have A:0<2^s:=Nat.pow_pos (by decide);have v:(4294967296:Nat)=2^(32-s)*2^s:=by rw[<-Nat.pow_add,show 32-s+s=32 by omega]
 have w:(y+1)*2^s<=aD:=by
  unfold aD;rw[v] at o⊢;exact Nat.mul_le_mul_right _ (Nat.lt_of_mul_lt_mul_right o)
 have f:=iR Y n;rw[iN (i:=n+1) (by omega),B] at f;have z:=nO (u.take n);rw[List.length_take,Nat.min_eq_left (by omega)] at z;have q:nv Z<aD^(n+1):=by
  have c:2^s*nv Y<2^s*(aD^n*(y+1)):=Nat.mul_lt_mul_of_pos_left (by rw[f,Nat.mul_add,Nat.mul_one];omega) A;have k:aD^n*((y+1)*2^s)<=aD^n*aD:=Nat.mul_le_mul_left _ w;rw[hv,Nat.pow_succ];have D:2^s*(aD^n*(y+1))=aD^n*((y+1)*2^s):=by ac_rfl
  omega
 have H:aD^n*(y*2^s)<=nv Z:=by
  rw[hv,f,show aD^n*(y*2^s)=2^s*(aD^n*y) by ac_rfl];exact Nat.mul_le_mul_left _ (by omega)
 have b:=iR Z (n+1);rw[iN (i:=n+1+1) (by omega)] at b;have e:cB Z (n+1)=0:=by
  rcases Nat.eq_zero_or_pos (cB Z (n+1)) with h|h
  ·exact h
  ·have:aD^(n+1)*1<=aD^(n+1)*cB Z (n+1):=Nat.mul_le_mul_left _ h;omega
 have J:=iR Z n;have C:=nO (g.take n);rw[List.length_take,Nat.min_eq_left (by omega)] at C;have t:aD<=2*cB Z n:=by
  have c:aD^n*(y*2^s)<aD^n*(cB Z n+1):=by
   rw[e,Nat.mul_zero,Nat.add_zero] at b;rw[Nat.mul_add,Nat.mul_one];omega
  have:=Nat.lt_of_mul_lt_mul_left c;unfold aD;omega
 have p:n+1<Z.length:=by omega
 have j:Z=Z.take (n+1)++[0]:=by
  have c:Z[n+1]=0:=by rw[<-e,m9 (List.getElem?_eq_getElem p)]
  have:=List.take_succ_eq_append_getElem p;rw[c,List.take_of_length_le (by omega)] at this;exact this
 have m:(Z.take (n+1)).length=n+1:=by rw[List.length_take];omega
 have l:cB (Z.take (n+1)) n=cB Z n:=by rw[m9 (List.getElem?_eq_getElem (by omega)),m9 (List.getElem?_eq_getElem (show n<Z.length by omega)),List.getElem_take]
 refine⟨Z.take (n+1),j,?_,m,g.take _,?_,by rw[l];exact t,?_⟩
 ·rw[show aW aV Z=aW aV (Z.take (n+1)++[0]) from congrArg _ j,zU,if_pos (show aV 0=true from rfl)];refine qB (fun a d=> ?_);have k:(Z.take (n+1)).getLast?=some (cB (Z.take (n+1)) n):=by
   rw[List.getLast?_eq_getElem?,m,Nat.add_sub_cancel,m9 (List.getElem?_eq_getElem (show n<(Z.take (n+1)).length by omega))];exact List.getElem?_eq_getElem _
  rw[k] at d;injection d with d;rw[<-d,l];intro E;unfold aD at t;omega
 ·rw[<-hv];rw[e,Nat.mul_zero,Nat.add_zero] at b;exact b.symm
 ·rw[b,e,Nat.mul_zero,Nat.add_zero] at q;exact q
def NM{M:Nat}(b:Dg X)(hv:vs.length=p+2)(j:X.length=M+(p+2))(k:aD<=2*cB vs (p+1))(m:s<32):2^s*nv X<nv vs*aD^(M+1):=by
 have c:=nO b;have d:=iR vs (p+1);rw[iN (by omega)] at d;have e:aD^(p+1)*aD<=aD^(p+1)*(2*cB vs (p+1)):=Nat.mul_le_mul_left _ k;rw[show aD^(p+1)*(2*cB vs (p+1))=2*(aD^(p+1)*cB vs (p+1)) by ac_rfl] at e;have f:2^s<=2147483648:=Nat.pow_le_pow_right (by decide) (show s<=31 by omega);have l:2^s*nv X<=2147483648*nv X:=Nat.mul_le_mul_right _ f;have a:aD^(p+2)*aD^(M+1)<=2*nv vs*aD^(M+1):=Nat.mul_le_mul_right _ (by rw[Nat.pow_succ];omega);have g:aD^(p+2)*aD^(M+1)=aD*aD^X.length:=by rw[j,<-Nat.pow_add,<-Nat.pow_succ'];congr 1;omega
 rw[Nat.mul_assoc] at a;unfold aD at a g c⊢;omega
def NN(h:l.length=n+(k+1)):∃lo xs t,l=lo++(xs++[t])∧lo.length=k∧xs.length=n:=by
 have a:n<(l.drop k).length:=by rw[List.length_drop];omega
 refine⟨l.take k,(l.drop k).take n,(l.drop k)[n],?_,by rw[List.length_take];omega,by rw[List.length_take];omega⟩;have e:=List.take_succ_eq_append_getElem a;rw[List.take_of_length_le (by rw[List.length_drop];omega)] at e;rw[<-e,List.take_append_drop]
def fy5{lo:List Nat}(a:lo.length=k)(hi:i<xs.length):(lo++(xs++[t])++zs)[k+i]? =some (cB xs i):=by
 rw[List.append_assoc,List.getElem?_append_right (by omega),a,Nat.add_sub_cancel_left,List.append_assoc,List.getElem?_append_left hi,m9 (List.getElem?_eq_getElem hi)];exact List.getElem?_eq_getElem hi
def NO{lo:List Nat}(a:lo.length=k)(hn:xs.length=n):(lo++(xs++[t])++zs)[k+n]? =some t:=by
 rw[show lo++(xs++[t])++zs=(lo++xs)++t :: zs by simp];exact zH (by rw[List.length_append,a,hn])
def NP(a:y≠0)(h:y<4294967296):∃s,s<32∧2147483648<=y*2^s∧y*2^s<4294967296:=by
 have g:∀k,∀y:Nat,y≠0->y<4294967296->4294967296<=y*2^(k+1)->∃s,s<=k∧2147483648<=y*2^s∧y*2^s<4294967296:=by
  intro k;induction k with
  |zero=>intro y a h c;exact⟨0,Nat.le_refl _,by omega,by omega⟩
  |succ k f=>
   intro y a h c;rcases Nat.lt_or_ge y 2147483648 with e|e
   ·obtain⟨s,d,b,j⟩:=f (y*2) (by omega) (by omega) (by rw[Nat.pow_succ] at c;grind);refine⟨s+1,by omega,?_,?_⟩<;>(rw[Nat.pow_succ,Nat.mul_comm (2^s),<-Nat.mul_assoc];assumption)
   ·exact⟨0,by omega,by omega,by omega⟩
 obtain⟨s,d,b⟩:=g 31 y a h (by omega);exact⟨s,by omega,b⟩
def NR(f:s<32)(d:P.length=i)(h:2^s*nv P+R=A+aD^i*(x%2^s)):
  2^s*nv (P++[x/2^s+2^(32-s)*(y%2^s)])+R=A+aD^i*x+aD^(i+1)*(y%2^s):=by
 have a:aD=2^s*2^(32-s):=by rw[<-Nat.pow_add,show s+(32-s)=32 by omega];rfl
 have b:=Nat.mod_add_div x (2^s);rw[mE _ d,Nat.pow_succ];generalize y%2^s=m at *;have c:2^s*(aD^i*(x/2^s+2^(32-s)*m))=aD^i*(2^s*(x/2^s))+aD^i*aD*m:=by rw[Nat.mul_assoc (aD^i),a];grind
 rw[Nat.mul_add,c];have e:aD^i*x=aD^i*(x%2^s)+aD^i*(2^s*(x/2^s)):=by rw[<-Nat.mul_add,b]
 omega
def NS(h:2^s*p+r%2^s=a)(j:a=2^s*R):p=R:=by
 have d:0<2^s:=Nat.pow_pos (by decide);have e:=Nat.mod_lt r d;have b:2^s*p<2^s*(R+1):=by rw[Nat.mul_add];omega
 have c:2^s*R<2^s*(p+1):=by rw[Nat.mul_add];omega
 have f:=Nat.lt_of_mul_lt_mul_left b;have g:=Nat.lt_of_mul_lt_mul_left c;omega
def NT(k:0<b)(h:u+2^s*b*r=2^s*a)(l:u<2^s*b):r=a/b∧u=2^s*(a%b):=by
 have g:0<2^s:=Nat.pow_pos (by decide);have j:2^s*b*r=2^s*(b*r):=Nat.mul_assoc _ _ _;have e:b*r<=a:=Nat.le_of_mul_le_mul_left (show 2^s*(b*r)<=2^s*a by omega) g;have f:a<b*(r+1):=Nat.lt_of_mul_lt_mul_left (a:=2^s) (by rw[Nat.mul_add,Nat.mul_one,Nat.mul_add];omega);have d:r=a/b:=(Nat.div_eq_of_lt_le (by rw[Nat.mul_comm];exact e) (by rw[Nat.mul_comm];exact f)).symm;refine⟨d,?_⟩;have c:=Nat.div_add_mod a b;rw[<-d] at c;rw[<-c,Nat.mul_add] at h;omega
structure Dvs(vs:List Nat)(n p:Nat):Prop where
 hn:n=p+1+1
 len:vs.length=n
 dg:Dg vs
 top:aD<=2*cB vs (p+1)
 lt:nv vs<aD^n
structure DvX(us vs lo xs:List Nat)(k n t u1 u0 v1 v0 qt rt:Nat):Prop where
 us_:us=lo++(xs++[t])
 lo_:lo.length=k
 xs_:xs.length=n
 dlo:Dg lo
 dxs:Dg xs
 c2:∀zs,(us++zs)[k+n]? =some t
 c1:∀zs,(us++zs)[k+n-1]? =some u1
 c0:∀zs,(us++zs)[k+n-2]? =some u0
 d1:(vs++[0])[n-1]? =some v1
 d0:(vs++[0])[n-2]? =some v0
 u_:nv xs+aD^n*t=qt*nv vs+rt
 r_:rt<nv vs
 first:Est t u1 v1 qt ((t*aD+u1)/v1) ((t*aD+u1)%v1)
 more:∀h r,Est t u1 v1 qt h r->(aD<=h∨r*aD+u0<h*v0)->Est t u1 v1 qt (h-1) (r+v1)∧1<=h
 fin:∀h r,Est t u1 v1 qt h r->(h<aD∧h*v0<=r*aD+u0∨aD<=r)->qt<=h∧h<=qt+1∧h<aD
def NU{us:List Nat}(V:Dvs vs n p)(O:us.length=n+(k+1))(A:Dg us)(R:nv us<nv vs*aD^(k+1)):
  ∃lo xs t u1 u0 v1 v0 qt u,DvX us vs lo xs k n t u1 u0 v1 v0 qt u∧t<aD∧u1<aD∧u0<aD∧v1<aD∧v0<aD∧0<v1∧qt<aD:=by
 obtain⟨hn,T,f,H,ab⟩:=V;obtain⟨lo,xs,t,rfl,c,l⟩:=NN O;have z:=NG c R;have L:Dg lo:=fun d b=>A d (List.mem_append_left _ b);have v:Dg (xs++[t]):=fun d b=>A d (List.mem_append_right _ b);have g:Dg xs:=fun d b=>v d (List.mem_append_left _ b);have W:=v t (by simp);have s:xs.length=p+2:=by rw[l,hn]
 have j:vs.length=p+2:=by rw[T,hn]
 have m:=sM g (p+1);have w:=sM g p;have F:=sM f (p+1);have E:=sM f p;have G:0<cB vs (p+1):=by unfold aD at H;omega
 have o:0<aD^p:=Nat.pow_pos mV;have N:0<nv vs:=by
  have Z:=zK j;have:1*1<=(cB vs (p+1)*aD+cB vs p)*aD^p:=Nat.mul_le_mul (by unfold aD;omega) o;omega
 have B:=Nat.div_add_mod (nv (xs++[t])) (nv vs);have S:=Nat.mod_lt (nv (xs++[t])) N;have C:nv (xs++[t])/nv vs<aD:=Nat.div_lt_of_lt_mul (by rw[Nat.mul_comm];exact z);generalize nv (xs++[t])/nv vs=qt at *;generalize nv (xs++[t])%nv vs=u at *;rw[Nat.mul_comm] at B;have D:=NK f s j z;have Y:=NH s (t:=t);have J:=NJ g s (t:=t);have I:=zK j;have X:=zL f j;obtain⟨M, -⟩:=Est.start I J (show qt*nv vs<=nv (xs++[t]) by omega) H D m w F;refine⟨lo,xs,t,_,_,_,_,qt,u,⟨rfl,c,l,L,g,fun K=>NO c l,fun K=> ?_,fun K=> ?_,?_,?_,?_,S,M,fun h r e a=>e.more o I J (show qt*nv vs<=nv (xs++[t]) by omega) C a,fun h r e a=> ?_⟩,W,m,w,F,E,G,C⟩
 ·rw[show k+n-1=k+(p+1) by omega];exact fy5 c (by omega)
 ·rw[show k+n-2=k+p by omega];exact fy5 c (by omega)
 ·rw[hn,List.getElem?_append_left (by omega),m9 (List.getElem?_eq_getElem (show p+1<vs.length by omega))];exact List.getElem?_eq_getElem _
 ·rw[hn,List.getElem?_append_left (by omega),m9 (List.getElem?_eq_getElem (show p<vs.length by omega))];exact List.getElem?_eq_getElem _
 ·rw[<-B.symm,mE t l] at *
 ·have q:h<aD∧h*cB vs p<=r*aD+cB xs p:=by
   rcases a with a|a
   ·exact a
   ·exact e.out D m E a
  have:=e.fin o X Y (by rw[Nat.add_mul,Nat.one_mul];omega) G q.1 q.2;exact⟨this.1,this.2,q.1⟩
end Go.Proofs.YtmiaanioldpfgaaGreatDoor
namespace Go.Proofs.YtmiaanioldpfgaaGreatDoor
open Go.RowKit Sos Tryz
variable{P Q ds es:List Nat}{b c d i k l n t x y:Nat}{A:Option Addr}{w:World}{e f v:Value}{a:Int}
def U(ds:List Nat):List Value:=ds.map (fun d:Nat=>Value.int .u32 (d:Int))
def MZ(ds:List Nat):(U ds).length=ds.length:=cH _
def SL(h:ds[i]? =some d):(U ds)[i]? =some (.int .u32 (d:Int)):=by unfold U;rw[iK,h];rfl
def N0(ds:List Nat)(i x:Nat):(U ds).set i (.int .u32 (x:Int))=U (ds.set i x):=by unfold U;rw[List.map_set]
def Ds(w:World)(v:Value)(ds:List Nat):Prop:=∃A c,v= .slice A ds.length c∧ds.length<=c∧Dg ds∧(ds=[]∨∃b,A=some ⟨b,0,none⟩∧b<w.1.size∧∀(i d:Nat),ds[i]? =some d->w.cell? ⟨b,i,none⟩=some (.int .u32 (d:Int)))
def Mg(w:World)(v:Value)(n:Nat):Prop:=∃ds,Ds w v ds∧aN ds∧nv ds=n
section
variable {w w':World}{v:Value}{ds:List Nat}
def Ds.form(h:Ds w v ds):∃A c,v= .slice A ds.length c∧ds.length<=c:=by
 obtain⟨A,c,hv,a,_⟩:=h;exact⟨A,c,hv,a⟩
def Ds.dg(h:Ds w v ds):Dg ds:=by
 obtain⟨A,c,hv,d,a,_⟩:=h;exact a
def Ds.cap(h:Ds w (.slice A l c) ds):ds.length<=c:=by
 obtain⟨A,c,e,a,_⟩:=h;simp only[Value.slice.injEq] at e;omega
def Ds.nil(w:World)(A:Option Addr)(c:Nat):Ds w (.slice A 0 c) []:=⟨A,c,rfl,dC _,(fun d a=>by cases a),.inl rfl⟩
def Ds.be(h:Ds w v ds)(a:Below w.1.size w w'):Ds w' v ds:=by
 obtain⟨A,c,hv,j,k,h⟩:=h;refine⟨A,c,hv,j,k,?_⟩;rcases h with h|⟨b,e,f,g⟩
 ·exact .inl h
 ·exact .inr ⟨b,e,aZ f a.size,fun i d l=>(a.cell (p:=⟨b,i,none⟩) f).trans (g i d l)⟩
def Ds.at_(h:Ds w (.slice A l c) ds)(hi:ds[i]? =some d):∃b,A=some ⟨b,0,none⟩∧b<w.1.size∧w.cell? ⟨b,i,none⟩=some (.int .u32 (d:Int)):=by
 obtain⟨g,j,e,k,m,h⟩:=h;simp only[Value.slice.injEq] at e;obtain⟨rfl,rfl,rfl⟩:=e;rcases h with h|⟨b,e,f,a⟩
 ·rw[h] at hi;simp at hi
 ·exact⟨b,e,f,a i d hi⟩
def Ds.cut(h:Ds w (.slice A l c) ds)(k:Nat)(j:k<=ds.length):Ds w (.slice A k c) (ds.take k):=by
 obtain⟨n,o,e,p,g,h⟩:=h;simp only[Value.slice.injEq] at e;obtain⟨rfl,rfl,rfl⟩:=e;refine⟨A,c,by rw[bK,y8 j],by rw[bK];omega,g.take k,?_⟩;rcases h with h|⟨b,e,m,f⟩
 ·left;rw[h];simp
 ·refine .inr ⟨b,e,m,fun i d a=>f i d ?_⟩;rw[fC] at a;split at a
  ·exact a
  ·cases a
def Ds.own(h:Bx w b (U (ds++es)) 140)(f:Dg ds)(c:Nat)(e:ds.length<=c):Ds w (.slice (some ⟨b,0,none⟩) ds.length c) ds:=
 ⟨_,c,rfl,e,f,.inr ⟨b,rfl,h.lt,fun i d a=>h.cell i (SL (by rw[gA (List.getElem?_eq_some_iff.1 a).1];exact a))⟩⟩
def Mg.be(h:Mg w v n)(e:Below w.1.size w w'):Mg w' v n:=by
 obtain⟨ds,a,c,d⟩:=h;exact⟨ds,a.be e,c,d⟩
def Mg.drew(h:Mg w v n):Mg w.drew v n:=h.be (aG _ _).drew
def Mg.form(h:Mg w v n):∃A l c,v= .slice A l c:=by
 obtain⟨ds,a,d,e⟩:=h;obtain⟨A,c,hv,_⟩:=a.form;exact⟨A,_,c,hv⟩
def Mg.zero(w:World)(A:Option Addr)(c:Nat):Mg w (.slice A 0 c) 0:=⟨[],Ds.nil w A c,(fun a h=>by simp at h),rfl⟩
end
def zB(w:World)(n:Nat)(e:Ending)(w':World):Prop:=∃v,e= .returned v∧Mg w' v n∧Below w.1.size w w'
def oX:(Tryz.prog.info? 140).map (fun i=>(i.zero,i.size,i.bytes))=some (some (.int .u32 0),1,4):=by kernel_rfl
def Bx.zeros(h:Rw w b 1 (List.replicate n [Value.int .u32 0]) 140):Bx w b (U (List.replicate n 0)) 140:=by
 have e:(List.replicate n [Value.int .u32 0]).flatten=U (List.replicate n 0):=by
  unfold U;clear h;induction n with
  |zero=>rfl
  |succ n a=>rw[aqV,aqU,a];rfl
 have:=h.1;rwa [e] at this
def Bx.mid(h:Bx w b (U (P++x :: Q)) 140)(a:P.length=i):w.cell? ⟨b,i,none⟩=some (.int .u32 (x:Int)):=h.cell i (SL (zH a))
def Bx.next(h:Bx w b (U (P++x :: Q)) 140)(a:P.length=i)(hv:v= .int .u32 (y:Int)):Bx (w.setCell ⟨b,i,none⟩ v) b (U ((P++[y])++Q)) 140:=by
 subst hv;have:=h.set i (.int .u32 (y:Int));rwa [N0,N6 a] at this
def pW(h:a=(b:Int)):Value.int .u32 a= .int .u32 (b:Int):=by rw[h]
def vH(h:a=(b:Int)):Value.int .u64 a= .int .u64 (b:Int):=by rw[h]
def fqP{s:Nat}(f:x<4294967296)(e:s+t<=4294967296):∃a D r c:Nat,IntKind.u64.wrap ((x:Int)-s)=a∧IntKind.u64.wrap ((a:Int)-t)=D∧(D:Int)%4294967296=r∧bits .and .u64 ((D:Int)/4294967296) 1=c∧c<=1∧r<4294967296∧a<=18446744073709551615∧D<=18446744073709551615∧x+aD*c=r+s+t:=by
 have d:∀n:Int,IntKind.u64.wrap n=n%18446744073709551616:=fun n=>by simp[IntKind.wrap,IntKind.bits,IntKind.signed]
 unfold aD;rw[d];rcases dE x (s+t) with h|h
 ·refine⟨(((x:Int)-s)%18446744073709551616).toNat,18446744073709551616+x-s-t,4294967296+x-s-t,1,by omega,by rw[d];omega,by omega,?_,by omega,by omega,by omega,by omega,by omega⟩;rw[show((18446744073709551616+x-s-t:Nat):Int)/4294967296=4294967295 by omega];decide
 ·refine⟨x-s,x-s-t,x-s-t,0,by omega,by rw[d];omega,by omega,?_,by omega,by omega,by omega,by omega,by omega⟩;rw[show((x-s-t:Nat):Int)/4294967296=0 by omega];decide
def Bx.prev(h:Bx w b (U (List.replicate (k+1) 0++Q)) 140)(hv:v= .int .u32 (y:Int)):Bx (w.setCell ⟨b,k,none⟩ v) b (U (List.replicate k 0++y :: Q)) 140:=by
 rw[aqW,eK] at h;have:=h.next (P:=List.replicate k 0) dB hv;rwa [eK] at this
def Bx.last(h:Bx w b (U (List.replicate (k+1) 0++Q)) 140):w.cell? ⟨b,k,none⟩=some (.int .u32 ((0:Nat):Int)):=by
 rw[aqW,eK] at h;exact h.mid dB
def zG(r x:Nat)(c:r<4294967296)(a:x<4294967296):bits .or .u64 ((r:Int)*4294967296) (x:Int)=((r*aD+x:Nat):Int):=by
 rw[u64_or _ _ (by omega) (by omega) (by omega) (by omega),show((r:Int)*4294967296).toNat=2^32*r by omega,j9,zO a,dN];rfl
def Ds.src(h:Ds w (.slice A l c) ds):Src w A (U ds):=by
 obtain⟨j,k,e,m,f,h⟩:=h;simp only[Value.slice.injEq] at e;obtain⟨rfl,rfl,rfl⟩:=e;rcases h with h|⟨b,e,n,g⟩
 ·exact .inl (by rw[h];rfl)
 ·refine .inr ⟨b,0,e,fun i u a=> ?_⟩;unfold U at a;rw[iK] at a;cases f:ds[i]? with
  |none=>rw[f] at a;cases a
  |some d=>
   rw[f] at a;injection a with a;rw[bA,g i d f,<-a]
def Ds.row{B:Nat}(h:w.ownsRow B 140 1 v n (U ds))(hn:ds.length=n)(k:Dg ds):Ds w v ds:=by
 subst hn;rcases h.2 with ⟨rfl,j⟩|⟨g,e,f,rfl,o,c,hn,_,p,m⟩
 ·obtain rfl:=bX j;exact Ds.nil _ _ _
 ·refine⟨_,e,rfl,hn,k,.inr ⟨g,rfl,(Array.getElem?_eq_some_iff.1 c).1,fun i d l=> ?_⟩⟩;rw[cell_of_row w g i f _ (0,0) c,<-Array.getElem?_toList];have a:=SL l;rw[<-m,fC] at a;split at a
  ·exact a
  ·cases a
def N4(ds:List Nat):∀u∈U ds,u.oneCell'=true:=fun u a=>by
 obtain⟨d,_,rfl⟩:=List.mem_map.1 a;rfl
def N5(g:t<4294967296)(f:c<=4294967296)(e:b<=1):∃d D:Nat,IntKind.u64.wrap ((t:Int)-c)=d∧IntKind.u64.wrap ((d:Int)-b)=D∧d<=18446744073709551615∧(t=c+b->D=0)∧(c+b=t+1->D=18446744073709551615):=by
 have a:∀n:Int,IntKind.u64.wrap n=n%18446744073709551616:=fun n=>by simp[IntKind.wrap,IntKind.bits,IntKind.signed]
 refine⟨(((t:Int)-c)%18446744073709551616).toNat,(((t:Int)-c-b)%18446744073709551616).toNat,by rw[a];omega,by rw[a];omega,by omega,by omega,by omega⟩
def KS(g:aN ds)(hn:nv ds=n):ds.length<=2*nl n:=by
 by_cases c:ds=[]
 ·rw[c];exact dC _
 ·have d:=zN g c;have e:=cyD n;have f:BN^nl n=aD^(2*nl n):=by rw[azL];rfl
  rw[hn] at d;rw[f] at e;have:=(Nat.pow_lt_pow_iff_right (a:=aD) (by decide)).1 (jI d e);omega
def KM(w w':World):Prop:=w.1.size<=w'.1.size∧∀p k x,w.cell? p=some (Value.int k x)->w'.cell? p=some (Value.int k x)
section
variable {w w' W:World}{b B:Nat}{t:TypeId}{cs:List Value}
def KM.trans{a b c:World}(h:KM a b)(k:KM b c):KM a c:=⟨aH h.1 k.1,fun p i x d=>k.2 p i x (h.2 p i x d)⟩
def KM.be(a:Below w.1.size w w'):KM w w':=⟨a.size,fun p k x h=>(a.cell (block_lt_of_cell h)).trans h⟩
def Mg.ke(h:Mg w v n)(a:KM w w'):Mg w' v n:=by
 obtain⟨ds,⟨A,c,hv,k,l,h⟩,f,g⟩:=h;refine⟨ds,⟨A,c,hv,k,l,?_⟩,f,g⟩;rcases h with h|⟨b,e,o,j⟩
 ·exact .inl h
 ·exact .inr ⟨b,e,aZ o a.1,fun i d m=>a.2 _ _ _ (j i d m)⟩
def Bx.mut1(h:Bx W b cs t)(n:Below B w W)(m:B<=b)(i:Nat)(v:Value)(hn:cS cs[i]? =true):
  ∃a,W.setCell ⟨b,i,none⟩ v=a∧Bx a b (cs.set i v) t∧Below B w a∧KM W a∧∀{g:Nat} {cs:List Value} {t:TypeId},Bx W g cs t->b≠g->Bx a g cs t:=by
 obtain⟨a,e,j,l, -,f⟩:=h.put1 n m i v hn;refine⟨a,e,j,l,?_,fun k h=>f k h⟩;subst e;refine⟨by simp,fun p k x d=> ?_⟩;rw[World.cell?_setCell_other _ _ _ _ ?_,d];rintro rfl;cases hc:cs[i]? with
 |none=>rw[hc] at hn;cases hn
 |some c=>
  rw[h.cell i hc] at d;injection d with d;rw[hc,d] at hn;cases hn
def Bx.mut2(h:Bx W b cs t)(r:Below B w W)(i:B<=b)(c d:Value)(s:cs=[e,f])(hn:(cS (some e)&&cS (some f))=true):
  ∃a,(W.setCell ⟨b,0,none⟩ c).setCell ⟨b,1,none⟩ d=a∧Bx a b [c,d] t∧Below B w a∧KM W a∧∀{g:Nat} {cs:List Value} {t:TypeId},Bx W g cs t->b≠g->Bx a g cs t:=by
 subst s;simp only[az7] at hn;obtain⟨y,rfl,p,l,u,n⟩:=h.mut1 r i 0 c hn.1;obtain⟨z,rfl,q,m,x,o⟩:=p.mut1 l i 1 d hn.2;exact⟨_,rfl,q,m,u.trans x,fun k j=>o (n k j) j⟩
def Bx.mut4(h:Bx W b cs t)(F:Below B w W)(c:B<=b)(e f i j:Value){l m n o:Value}(G:cs=[l,m,n,o])(hn:(cS (some l)&&(cS (some m)&&(cS (some n)&&cS (some o))))=true):
  ∃a,(((W.setCell ⟨b,0,none⟩ e).setCell ⟨b,1,none⟩ f).setCell ⟨b,2,none⟩ i).setCell ⟨b,3,none⟩ j=a∧Bx a b [e,f,i,j] t∧Below B w a∧KM W a∧∀{g:Nat} {cs:List Value} {t:TypeId},Bx W g cs t->b≠g->Bx a g cs t:=by
 subst G;simp only[az7] at hn;obtain⟨L,rfl,A,p,H,u⟩:=h.mut1 F c 0 e hn.1;obtain⟨M,rfl,C,q,I,x⟩:=A.mut1 p c 1 f hn.2.1;obtain⟨N,rfl,D,r,J,y⟩:=C.mut1 q c 2 i hn.2.2.1;obtain⟨O,rfl,E,s,K,z⟩:=D.mut1 r c 3 j hn.2.2.2;exact⟨_,rfl,E,s,((H.trans I).trans J).trans K,fun k d=>z (y (x (u k d) d) d) d⟩
end
def zA(a:List Nat)(A:Option Addr)(c:Nat)(w:World)(hv:Ds w (.slice A a.length c) a)(u:a.length<=4398046511104):
  Calls prog 160 #[.slice A a.length c] w fun e w'=>e= .returned (.slice A (aW aV a).length c)∧w=w':=by
 have t:a.length<=c:=hv.cap;go_enter func160,ntmps160;go_wp2_with fail;go_loopg [0] a.length (fun k s wr=>∃m,Hid (m=k)∧s= .slice A m c∧m<=a.length∧Hid (aW aV (a.take m)=aW aV a)∧w=wr)
 case atStart=>exact⟨a.length,rfl,rfl,aE,by unfold Hid;rw[aq9],rfl⟩
 case round=>
  obtain⟨m,j,rfl,o,h,rfl⟩:=hrel;cases gk with
  |zero=>
   obtain rfl:m=0:=j.out;have i:Hid (aW aV a=[]):=h.out.symm;go_wp2;go_ret;rw[i.out];exact⟨rfl,rfl⟩
  |succ k=>
   have p:m=k+1:=j.out;subst p;obtain⟨d,g⟩:∃d,a[k]? =some d:=⟨_,aR (by omega)⟩;obtain⟨b,rfl,r,q⟩:=hv.at_ g;have l:=aB (zV aV a g);have n:=aB (zW aV a g);have v:k+1<=c:=by omega
   clear g;by_cases f:d=0
   ·subst f;go_wp2;go_roundg k
    case rel=>exact⟨k,rfl,by go_num,by omega,by unfold Hid;rw[<-l.out rfl];exact h.out,rfl⟩
    case measure=>omega
   ·have x:((d:Int)==0)=false:=by simpa using f
    have i:Hid (aW aV a=a.take (k+1)):=by unfold Hid;rw[<-h.out];exact n.out (by simpa [aV] using f)
    clear f;go_wp2;go_ret;rw[i.out,bK,y8 o];exact⟨rfl,rfl⟩
def ES(a es:List Nat)(b n c:Nat)(w:World)(h:Bx w b (U (a++es)) 140)(g:Dg a)(hn:nv a=n)(f:a.length<=c)(j:a.length<=4398046511104):
  Calls prog 160 #[.slice (some ⟨b,0,none⟩) a.length c] w fun e w'=>∃k c',e= .returned (.slice (some ⟨b,0,none⟩) k c')∧Mg w (.slice (some ⟨b,0,none⟩) k c') n∧w=w':=
 have d:=Ds.own h g c f
 (zA a _ c w d j).mono fun e w' ⟨i,l⟩=>⟨_,_,i,⟨aW aV a,by
  have:=d.cut (aW aV a).length (oY _ _);rwa [<-F1] at this,jS a,by rw[EZ];exact hn⟩,l⟩
def ET(a es:List Nat)(b n c:Nat)(w:World)(h:Bx w b (U (a++es)) 140)(f:Dg a)(hn:nv a=n)(d:a.length<=c)(i:a.length<=4398046511104):
  Calls prog 160 #[.slice (some ⟨b,0,none⟩) a.length c] w fun e w'=>∃v,e= .returned v∧Mg w v n∧w=w':=
 (ES a es b n c w h f hn d i).mono fun e w' ⟨k,m,g,j,l⟩=>⟨_,g,j,l⟩
def oW(a:List Nat)(b n c:Nat)(w:World)(h:Bx w b (U a) 140)(f:Dg a)(hn:nv a=n)(d:a.length<=c)(g:a.length<=4398046511104):
  Calls prog 160 #[.slice (some ⟨b,0,none⟩) a.length c] w fun e w'=>∃v,e= .returned v∧Mg w v n∧w=w':=ET a [] b n c w (by rw[fH];exact h) f hn d g
def EU(a b:Nat)(l m:Value)(w:World)(L:Mg w l a)(M:Mg w m b)(la:nl a<=1099511627776)(lb:nl b<=1099511627776):
  Calls prog 140 #[l,m] w (zB w (a+b)):=by
 obtain⟨X,Y,u,z,E,F,lX,hl,hs,ac⟩:∃X Y u z,Ds w u X∧Ds w z Y∧X.length<=2199023255552∧Y.length<=X.length∧Hid (nv X+nv Y=a+b)∧(l=u∧m=z∨l=z∧m=u∧Y.length<X.length):=by
  obtain⟨G,g,tx,rfl⟩:=L;obtain⟨H,j,ty,rfl⟩:=M;have lx:=KS tx rfl;have ly:=KS ty rfl;rcases dE G.length H.length with h|h
  ·exact⟨H,G,m,l,j,g,by omega,by omega,aq1 _ _,.inr ⟨rfl,rfl,h⟩⟩
  ·exact⟨G,H,l,m,g,j,by omega,h,rfl,.inl ⟨rfl,rfl⟩⟩
 obtain⟨A,c,rfl,hc⟩:=E.form;obtain⟨B,d,rfl,O⟩:=F.form;have V:=E.dg;have Z:=F.dg;clear L M;rcases ac with ⟨rfl,rfl⟩|⟨rfl,rfl,h⟩
 all_goals (
  go_enter func140,ntmps140;go_wp2_with (at_make;refine jT rfl rfl 140 _ 1 4 underlying58 oX rfl (by decide) (X.length+1) rfl rfl rfl rfl (by omega) (by omega) ?_;intro w1 ae S N);have R:=Bx.zeros S;clear S ae;go_loopg [6,7] X.length (fun k s t wr=>∃(P:List Nat) (e i:Nat),Hid (i+k=X.length)∧s= .int .u64 (e:Int)∧t= .int .i64 (i:Int)∧e<=1∧Hid (P.length=i)∧Dg P∧Hid (nv P+aD^i*e=nv (X.take i)+nv (Y.take i))∧Bx wr w.1.size (U (P++List.replicate (k+1) 0)) 140∧Below w.1.size w wr)
  case atStart=>exact⟨[],0,0,by unfold Hid;omega,rfl,rfl,by omega,rfl,(fun d O=>by cases O),rfl,R,N⟩
  case round=>
   clear R N;obtain⟨P,e,i,o,rfl,rfl,he,f,D,J,R,n⟩:=hrel;generalize wr=wx at *;have ak:(0:Int)<=(i:Int):=by omega
   cases gk with
   |zero=>
    have hi:i=X.length:=o.out;subst hi;have g0:=R.mid f.out;have f0:=R.free X.length;have Q:¬(X.length:Int)<(X.length:Int):=by omega
    go_wp2_with fail;have K:=R.next (y:=e) f.out rfl;have ab:=jR (x:=e) f.out;have hv:nv (P++[e])=a+b:=by
     have:=J.out;rw[iN aE,iN hl] at this;rw[mE e f.out,this,hs.out]
    have T:=fun W h=>oW (P++[e]) w.1.size (a+b) (X.length+1) W h (D.snoc (by unfold aD;omega)) hv (by omega) (by omega);rw[aq8,fH] at K;simp only[ab] at T;refine(T _ K).mono ?_;rintro e2 w2 ⟨v,rfl,hm,rfl⟩;go_wp2;go_ret;exact⟨_,rfl,hm,n.setCell (p:=⟨w.1.size,X.length,none⟩) aE _⟩
   |succ k=>
    have Q:i<X.length:=by have:=o.out;omega
    obtain⟨x,g⟩:∃x,X[i]? =some x:=⟨_,aR Q⟩;obtain⟨bx,rfl,ai,gx⟩:=(E.be n).at_ g;have af:=V.get g;unfold aD at af;have g0:=R.mid f.out;have f0:=R.free i;have I:=fun q=>aB (zI f.out J.out (show e+x+q=e+(x+q) by omega));have C:=aB (iR X i);have r:=aB (iR Y i);rw[m9 g] at C;clear g;by_cases ad:i<Y.length
    ·obtain⟨y,j⟩:∃y,Y[i]? =some y:=⟨_,aR ad⟩;obtain⟨ah,rfl,aj,gy⟩:=(F.be n).at_ j;have ag:=Z.get j;unfold aD at ag;rw[m9 j] at r;clear j;go_wp2;go_roundg k
     case rel=>exact⟨P++[(e+x+y)%aD],(e+x+y)/aD,i+1,by have:=o.out;unfold Hid;omega,vH (by unfold aD;omega),by go_num,by unfold aD;omega,jR f.out,D.snoc (dI _ mV),by unfold Hid;rw[C.out,r.out,(I y).out,iL];omega,R.next f.out (pW (by unfold aD;omega)),n.setCell (p:=⟨w.1.size,i,none⟩) aE _⟩
     case measure=>omega
    ·rw[rA (by omega)] at r;go_wp2;go_roundg k
     case rel=>exact⟨P++[(e+x)%aD],(e+x)/aD,i+1,by have:=o.out;unfold Hid;omega,vH (by unfold aD;omega),by go_num,by unfold aD;omega,jR f.out,D.snoc (dI _ mV),by unfold Hid;rw[C.out,r.out];exact(I 0).out.trans (by rw[iL];omega),R.next f.out (pW (by unfold aD;omega)),n.setCell (p:=⟨w.1.size,i,none⟩) aE _⟩
     case measure=>omega)
def EV(a b:Nat)(J K:Value)(w:World)(P:Mg w J a)(Q:Mg w K b)(la:nl a<=1099511627776)(lb:nl b<=1099511627776):
  Calls prog 141 #[J,K] w (eO w (bZ a b)):=by
 obtain⟨X,p,H,rfl⟩:=P;obtain⟨Y,q,I,rfl⟩:=Q;have lX:=KS H rfl;have lY:=KS I rfl;have n:=p.dg;have o:=q.dg;obtain⟨A,c,rfl,hc⟩:=p.form;obtain⟨B,d,rfl,hd⟩:=q.form;rcases bzH X.length Y.length with h|h|h
 ·have e:Hid (bZ (nv X) (nv Y)= -1):=jL (by have:=vI n I h;omega);have G:((X.length:Int) != (Y.length:Int))=true:=by simp;omega
  go_enter func141,ntmps141;go_wp2;go_ret;exact⟨by rw[e.out];rfl,aG _ _⟩
 ·have G:((X.length:Int) != (Y.length:Int))=false:=by simp;omega
  have m:=aB h;clear h;go_enter func141,ntmps141;go_wp2_with fail;go_loopg [5] X.length (fun k s wr=>∃i:Int,Hid (i+1=k)∧s= .int .i64 i∧ -1<=i∧i<X.length∧Hid (X.drop k=Y.drop k)∧Below w.1.size w wr)
  case atStart=>exact⟨(X.length:Int)-1,by unfold Hid;omega,rfl,by omega,by omega,by unfold Hid;rw[gO aE,gO (by rw[m.out];exact aE)],aG _ _⟩
  case round=>
   obtain⟨i,u,rfl,V,W,l,f⟩:=hrel;generalize wr=wx at *;cases gk with
   |zero=>
    have E:¬0<=i:=by have:=u.out;omega
    have e:Hid (bZ (nv X) (nv Y)=0):=by
     have:X=Y:=l.out;rw[this];exact eqU _
    go_wp2;go_ret;exact⟨by rw[e.out];rfl,f⟩
   |succ k=>
    have E:i=(k:Int):=by have:=u.out;omega
    subst E;obtain⟨x,g⟩:∃x,X[k]? =some x:=⟨_,aR (by omega)⟩;have O:k<Y.length:=by have:=m.out;omega
    obtain⟨y,j⟩:∃y,Y[k]? =some y:=⟨_,aR O⟩;obtain⟨R,rfl,ab,T⟩:=(p.be f).at_ g;obtain⟨S,rfl,ac,U⟩:=(q.be f).at_ j;have F:=fun h:x<y=>F0 n o g j m.out l.out h;have D:=fun h:y<x=>F0 o n j g m.out.symm l.out.symm h;have C:x=y->X.drop k=Y.drop k:=fun h=>by
     have v:=(List.getElem?_eq_some_iff.1 g);have z:=(List.getElem?_eq_some_iff.1 j);rw[j5 v.1,j5 z.1,l.out,v.2,z.2,h]
    have N:=aB F;have M:=aB D;have t:=aB C;clear F D C g j;rcases bzH x y with h|h|h
    ·have r:((x:Int) != (y:Int))=true:=by simp;omega
     have e:Hid (bZ (nv X) (nv Y)= -1):=jL (by have:=N.out h;omega);go_wp2;go_quiet (fail);go_wp2;go_quiet (fail);go_wp2;go_ret;exact⟨by rw[e.out];rfl,kI (kI f _) _⟩
    ·have r:((x:Int) != (y:Int))=false:=by simp;omega
     have L:=aB (t.out h);clear t;subst h;go_wp2;go_quiet (fail);go_wp2;go_roundg k
     case rel=>exact⟨(k:Int)-1,by unfold Hid;omega,by go_num,by omega,by omega,L,kI f _⟩
     case measure=>omega
    ·have r:((x:Int) != (y:Int))=true:=by simp;omega
     have e:Hid (bZ (nv X) (nv Y)=1):=mO (by have:=M.out h;omega);have Z:¬(x:Int)<(y:Int):=by omega
     go_wp2;go_quiet (fail);go_wp2;go_quiet (fail);go_wp2;go_ret;exact⟨by rw[e.out];rfl,kI (kI f _) _⟩
 ·have e:Hid (bZ (nv X) (nv Y)=1):=mO (by have:=vI o H h;omega);have G:((X.length:Int) != (Y.length:Int))=true:=by simp;omega
  have r:¬(X.length:Int)<(Y.length:Int):=by omega
  go_enter func141,ntmps141;go_wp2;go_ret;exact⟨by rw[e.out];rfl,aG _ _⟩
