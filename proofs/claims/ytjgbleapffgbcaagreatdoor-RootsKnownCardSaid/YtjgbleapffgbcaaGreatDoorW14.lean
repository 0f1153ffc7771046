/- Laws. -/
import Derived.Test.YtjgbleapffgbcaaGreatDoorW13
import Derived.Deep.DeepCutAuto
import Derived.Deep.LoopGhost
set_option linter.all false
set_option maxHeartbeats 8000000
set_option maxRecDepth 99999
namespace Go.Proofs.YtjgbleapffgbcaaGreatDoor
variable{P V W h qt:Nat}
section
variable {α:Type}{P Q:List α}{x y:α}{i:Nat}
def zH(h:P.length=i):(P++x :: Q)[i]? =some x:=by subst h;rw[List.getElem?_append_right (Nat.le_refl _),Nat.sub_self];rfl
def N6(h:P.length=i):(P++x :: Q).set i y=(P++[y])++Q:=by
 subst h;rw[List.set_append_right _ _ (Nat.le_refl _),Nat.sub_self,List.set_cons_zero,List.append_assoc];rfl
end
def Dg.drop{l:List Nat}(h:Dg l)(n:Nat):Dg (l.drop n):=fun d a=>h d (List.mem_of_mem_drop a)
def cB(l:List Nat)(i:Nat):Nat:=l.getD i 0
def dq1{U b:Nat}(f:0<P)(c:b*P<=V)(g:U<(W+1)*P)(k:qt*V<=U)(j:W<h*b):qt<h:=by
 have d:qt*b*P<=qt*V:=by rw[Nat.mul_assoc];exact Nat.mul_le_mul_left _ c
 have e:qt*b<W+1:=Nat.lt_of_mul_lt_mul_right (a:=P) (by omega);exact Nat.lt_of_mul_lt_mul_right (a:=b) (by omega)
def NC{U a:Nat}(l:0<P)(n:V<(a+1)*P)(m:W*P<=U)(p:U<(qt+1)*V)(e:h*a<=W)(o:h<=a):h<=qt+1:=by
 rcases Nat.lt_or_ge (qt+1) h with b|b
 ·obtain⟨g,rfl⟩:∃g,h=g+1:=⟨h-1,by omega⟩;have f:(qt+1)*V<=g*V:=Nat.mul_le_mul_right _ (by omega);have j:g*V<=g*((a+1)*P):=Nat.mul_le_mul_left _ (by omega);have k:(g+1)*a*P<=W*P:=Nat.mul_le_mul_right _ e;have c:(g+1)*a*P<g*(a+1)*P:=by rw[Nat.mul_assoc g];omega
  have d:(g+1)*a<g*(a+1):=Nat.lt_of_mul_lt_mul_right c;rw[Nat.add_mul,Nat.mul_add] at d;omega
 ·exact b
structure Est(u2 u1 v1 qt h r:Nat):Prop where
 eq:h*v1+r=u2*aD+u1
 lo:qt<=h
 hi:h<=aD+1
def Est.start{u2 u1 v1 v0 u0 U:Nat}(f:(v1*aD+v0)*P<=V)(l:U<((u2*aD+u1)*aD+u0+1)*P)(m:qt*V<=U)(hn:aD<=2*v1)(g:u2<=v1)(k:u1<aD)(j:u0<aD)(hv:v1<aD):
  Est u2 u1 v1 qt ((u2*aD+u1)/v1) ((u2*aD+u1)%v1)∧(u2*aD+u1)%v1<aD:=by
 have a:0<v1:=by unfold aD at hn;omega
 have e:=Nat.div_add_mod (u2*aD+u1) v1;have n:=Nat.mod_lt (u2*aD+u1) a;refine⟨⟨by rw[Nat.mul_comm];exact e,?_,Nat.le_of_lt_succ (Nat.div_lt_of_lt_mul ?_)⟩,by omega⟩
 ·rw[Nat.le_div_iff_mul_le a];have b:qt*(v1*aD*P)<=qt*V:=Nat.mul_le_mul_left _ (Nat.le_trans (Nat.mul_le_mul_right _ (Nat.le_add_right _ v0)) f);have c:qt*v1*(aD*P)<(u2*aD+u1+1)*(aD*P):=by
   have d:((u2*aD+u1)*aD+u0+1)*P<=((u2*aD+u1+1)*aD)*P:=Nat.mul_le_mul_right _ (by rw[Nat.add_mul _ 1];omega);rw[Nat.mul_assoc (u2*aD+u1+1)] at d;rw[Nat.mul_assoc,<-Nat.mul_assoc v1];omega
  have:=Nat.lt_of_mul_lt_mul_right c;omega
 ·have b:u2*aD<=v1*aD:=Nat.mul_le_mul_right _ g;rw[show v1*(aD+1).succ=v1*aD+2*v1 by rw[show(aD+1).succ=aD+2 from rfl,Nat.mul_add];omega];omega
section
variable {u2 u1 u0 v1 v0 qt h r P U V:Nat}
def Est.more(e:Est u2 u1 v1 qt h r)(c:0<P)(f:(v1*aD+v0)*P<=V)(d:U<((u2*aD+u1)*aD+u0+1)*P)(j:qt*V<=U)(m:qt<aD)(a:aD<=h∨r*aD+u0<h*v0):Est u2 u1 v1 qt (h-1) (r+v1)∧1<=h:=by
 have l:qt<h:=by
  rcases a with a|a
  ·omega
  ·refine dq1 c f d j ?_;rw[<-e.eq,Nat.add_mul,Nat.mul_add,<-Nat.mul_assoc];omega
 have b:=e.eq;have k:=e.hi;obtain⟨g,rfl⟩:∃g,h=g+1:=⟨h-1,by omega⟩;rw[Nat.add_mul,Nat.one_mul] at b;exact⟨⟨by rw[Nat.add_sub_cancel];omega,by omega,by omega⟩,by omega⟩
def Est.fin(e:Est u2 u1 v1 qt h r)(b:0<P)(d:V<(v1*aD+v0+1)*P)(c:((u2*aD+u1)*aD+u0)*P<=U)(f:U<(qt+1)*V)(a:0<v1)(j:h<aD)(g:h*v0<=r*aD+u0):qt<=h∧h<=qt+1:=by
 refine⟨e.lo,NC b d c f ?_ ?_⟩
 ·rw[<-e.eq,Nat.add_mul,Nat.mul_add,<-Nat.mul_assoc];omega
 ·have:1*aD<=v1*aD:=Nat.mul_le_mul_right _ a;omega
def Est.out(e:Est u2 u1 v1 qt h r)(c:u2<=v1)(f:u1<aD)(m:v0<aD)(b:aD<=r):h<aD∧h*v0<=r*aD+u0:=by
 have d:h<aD:=by
  have g:=e.eq;have j:u2*aD<=v1*aD:=Nat.mul_le_mul_right _ c;refine Nat.lt_of_mul_lt_mul_right (a:=v1) ?_;rw[Nat.mul_comm aD];omega
 refine⟨d,?_⟩;have k:h*v0<=aD*aD:=Nat.mul_le_mul (by omega) (by omega);have l:aD*aD<=r*aD:=Nat.mul_le_mul_right _ b;omega
end
structure Dvs(vs:List Nat)(n p:Nat):Prop where
 hn:n=p+1+1
 len:vs.length=n
 dg:Dg vs
 top:aD<=2*cB vs (p+1)
 lt:nv vs<aD^n
structure DvX(us vs lo xs:List Nat)(k n t u1 u0 v1 v0 qt rt:Nat):Prop where
 us_:us=lo++(xs++[t])
 lo_:lo.length=k
 xs_:xs.length=n
 dlo:Dg lo
 dxs:Dg xs
 c2:∀zs,(us++zs)[k+n]? =some t
 c1:∀zs,(us++zs)[k+n-1]? =some u1
 c0:∀zs,(us++zs)[k+n-2]? =some u0
 d1:(vs++[0])[n-1]? =some v1
 d0:(vs++[0])[n-2]? =some v0
 u_:nv xs+aD^n*t=qt*nv vs+rt
 r_:rt<nv vs
 first:Est t u1 v1 qt ((t*aD+u1)/v1) ((t*aD+u1)%v1)
 more:∀h r,Est t u1 v1 qt h r->(aD<=h∨r*aD+u0<h*v0)->Est t u1 v1 qt (h-1) (r+v1)∧1<=h
 fin:∀h r,Est t u1 v1 qt h r->(h<aD∧h*v0<=r*aD+u0∨aD<=r)->qt<=h∧h<=qt+1∧h<aD
end Go.Proofs.YtjgbleapffgbcaaGreatDoor
namespace Go.Proofs.YtjgbleapffgbcaaGreatDoor
open Go.RowKit Sos
variable{P Q ds es:List Nat}{b c d g i k l n x:Nat}{A:Option Addr}{w:World}{u v:Value}{a s:Bool}{t:TypeId}
def U(ds:List Nat):List Value:=ds.map (fun d:Nat=>Value.int .u32 (d:Int))
def SL(h:ds[i]? =some d):(U ds)[i]? =some (.int .u32 (d:Int)):=by unfold U;rw[iK,h];rfl
def N0(ds:List Nat)(i x:Nat):(U ds).set i (.int .u32 (x:Int))=U (ds.set i x):=by unfold U;rw[List.map_set]
def Ds(w:World)(v:Value)(ds:List Nat):Prop:=∃A c,v= .slice A ds.length c∧ds.length<=c∧Dg ds∧(ds=[]∨∃b,A=some ⟨b,0,none⟩∧b<w.1.size∧∀(i d:Nat),ds[i]? =some d->w.cell? ⟨b,i,none⟩=some (.int .u32 (d:Int)))
def Mg(w:World)(v:Value)(n:Nat):Prop:=∃ds,Ds w v ds∧aN ds∧nv ds=n
section
variable {w w':World}{v:Value}{ds:List Nat}
def Ds.form(h:Ds w v ds):∃A c,v= .slice A ds.length c∧ds.length<=c:=by
 obtain⟨A,c,hv,a,_⟩:=h;exact⟨A,c,hv,a⟩
def Ds.dg(h:Ds w v ds):Dg ds:=by
 obtain⟨A,c,hv,d,a,_⟩:=h;exact a
def Ds.nil(w:World)(A:Option Addr)(c:Nat):Ds w (.slice A 0 c) []:=⟨A,c,rfl,dC _,(fun d a=>by cases a),.inl rfl⟩
def Ds.be(h:Ds w v ds)(a:Below w.1.size w w'):Ds w' v ds:=by
 obtain⟨A,c,hv,j,k,h⟩:=h;refine⟨A,c,hv,j,k,?_⟩;rcases h with h|⟨b,e,f,g⟩
 ·exact .inl h
 ·exact .inr ⟨b,e,aZ f a.size,fun i d l=>(a.cell (p:=⟨b,i,none⟩) f).trans (g i d l)⟩
def Ds.at_(h:Ds w (.slice A l c) ds)(hi:ds[i]? =some d):∃b,A=some ⟨b,0,none⟩∧b<w.1.size∧w.cell? ⟨b,i,none⟩=some (.int .u32 (d:Int)):=by
 obtain⟨g,j,e,k,m,h⟩:=h;simp only[Value.slice.injEq] at e;obtain⟨rfl,rfl,rfl⟩:=e;rcases h with h|⟨b,e,f,a⟩
 ·rw[h] at hi;simp at hi
 ·exact⟨b,e,f,a i d hi⟩
def Ds.cut(h:Ds w (.slice A l c) ds)(k:Nat)(j:k<=ds.length):Ds w (.slice A k c) (ds.take k):=by
 obtain⟨n,o,e,p,g,h⟩:=h;simp only[Value.slice.injEq] at e;obtain⟨rfl,rfl,rfl⟩:=e;refine⟨A,c,by rw[bK,y8 j],by rw[bK];omega,g.take k,?_⟩;rcases h with h|⟨b,e,m,f⟩
 ·left;rw[h];simp
 ·refine .inr ⟨b,e,m,fun i d a=>f i d ?_⟩;rw[fC] at a;split at a
  ·exact a
  ·cases a
def Ds.own(h:Bx w b (U (ds++es)) 190)(f:Dg ds)(c:Nat)(e:ds.length<=c):Ds w (.slice (some ⟨b,0,none⟩) ds.length c) ds:=
 ⟨_,c,rfl,e,f,.inr ⟨b,rfl,h.lt,fun i d a=>h.cell i (SL (by rw[gA (List.getElem?_eq_some_iff.1 a).1];exact a))⟩⟩
def Mg.be(h:Mg w v n)(e:Below w.1.size w w'):Mg w' v n:=by
 obtain⟨ds,a,c,d⟩:=h;exact⟨ds,a.be e,c,d⟩
def Mg.drew(h:Mg w v n):Mg w.drew v n:=h.be (aG _ _).drew
def Mg.form(h:Mg w v n):∃A l c,v= .slice A l c:=by
 obtain⟨ds,a,d,e⟩:=h;obtain⟨A,c,hv,_⟩:=a.form;exact⟨A,_,c,hv⟩
def Mg.zero(w:World)(A:Option Addr)(c:Nat):Mg w (.slice A 0 c) 0:=⟨[],Ds.nil w A c,(fun a h=>by simp at h),rfl⟩
end
def Bx.zeros(h:Rw w b 1 (List.replicate n [Value.int .u32 0]) 190):Bx w b (U (List.replicate n 0)) 190:=by
 have e:(List.replicate n [Value.int .u32 0]).flatten=U (List.replicate n 0):=by
  unfold U;clear h;induction n with
  |zero=>rfl
  |succ n a=>rw[aqV,aqU,a];rfl
 have:=h.1;rwa [e] at this
def Bx.mid(h:Bx w b (U (P++x :: Q)) 190)(a:P.length=i):w.cell? ⟨b,i,none⟩=some (.int .u32 (x:Int)):=h.cell i (SL (zH a))
def Bx.next{y:Nat}(h:Bx w b (U (P++x :: Q)) 190)(a:P.length=i)(hv:v= .int .u32 (y:Int)):Bx (w.setCell ⟨b,i,none⟩ v) b (U ((P++[y])++Q)) 190:=by
 subst hv;have:=h.set i (.int .u32 (y:Int));rwa [N0,N6 a] at this
def Bx.last(h:Bx w b (U (List.replicate (k+1) 0++Q)) 190):w.cell? ⟨b,k,none⟩=some (.int .u32 ((0:Nat):Int)):=by
 rw[aqW,eK] at h;exact h.mid dB
def Ds.src(h:Ds w (.slice A l c) ds):Src w A (U ds):=by
 obtain⟨j,k,e,m,f,h⟩:=h;simp only[Value.slice.injEq] at e;obtain⟨rfl,rfl,rfl⟩:=e;rcases h with h|⟨b,e,n,g⟩
 ·exact .inl (by rw[h];rfl)
 ·refine .inr ⟨b,0,e,fun i u a=> ?_⟩;unfold U at a;rw[iK] at a;cases f:ds[i]? with
  |none=>rw[f] at a;cases a
  |some d=>
   rw[f] at a;injection a with a;rw[bA,g i d f,<-a]
def lJ(g:aN ds)(hn:nv ds=n):ds.length<=2*nl n:=by
 by_cases c:ds=[]
 ·rw[c];exact dC _
 ·have d:=zN g c;have e:=cyD n;have f:BN^nl n=aD^(2*nl n):=by rw[azL];rfl
  rw[hn] at d;rw[f] at e;have:=(Nat.pow_lt_pow_iff_right (a:=aD) (by decide)).1 (jI d e);omega
def KM(w w':World):Prop:=w.1.size<=w'.1.size∧∀p k x,w.cell? p=some (Value.int k x)->w'.cell? p=some (Value.int k x)
section
variable {w w' W:World}{b B:Nat}{t:TypeId}{cs:List Value}
def KM.trans{a b c:World}(h:KM a b)(k:KM b c):KM a c:=⟨aH h.1 k.1,fun p i x d=>k.2 p i x (h.2 p i x d)⟩
def KM.be(a:Below w.1.size w w'):KM w w':=⟨a.size,fun p k x h=>(a.cell (block_lt_of_cell h)).trans h⟩
def Mg.ke(h:Mg w v n)(a:KM w w'):Mg w' v n:=by
 obtain⟨ds,⟨A,c,hv,k,l,h⟩,f,g⟩:=h;refine⟨ds,⟨A,c,hv,k,l,?_⟩,f,g⟩;rcases h with h|⟨b,e,o,j⟩
 ·exact .inl h
 ·exact .inr ⟨b,e,aZ o a.1,fun i d m=>a.2 _ _ _ (j i d m)⟩
end
def NI(w:World)(v:Value)(n:Int):Prop:=∃u,v= .agg #[.bool (decide (n<0)),u]∧Mg w u n.natAbs
section
variable {w w':World}{v u:Value}{n:Int}{s:Bool}
def NI.be(h:NI w v n)(a:Below w.1.size w w'):NI w' v n:=by
 obtain⟨u,e,h⟩:=h;exact⟨u,e,h.be a⟩
def NI.ke(h:NI w v n)(a:KM w w'):NI w' v n:=by
 obtain⟨u,e,h⟩:=h;exact⟨u,e,h.ke a⟩
def NI.drew(h:NI w v n):NI w.drew v n:=h.be (aG _ _).drew
def NI.form(h:NI w v n):∃s A k c,v= .agg #[.bool s,.slice A k c]:=by
 obtain⟨u,rfl,h⟩:=h;obtain⟨A,k,c,rfl⟩:=h.form;exact⟨_,A,k,c,rfl⟩
def NI.words(h:NI w (.agg #[.bool s,u]) n):Mg w u n.natAbs:=by
 obtain⟨u,e,h⟩:=h;simp at e;rw[e.2];exact h
def NI.neg(h:NI w (.agg #[.bool s,u]) n):s=decide (n<0):=by
 obtain⟨u,e,h⟩:=h;simp at e;exact e.1
def NI.zero(w:World):NI w (.agg #[.bool false,.slice none 0 0]) 0:=⟨_,rfl,Mg.zero _ _ _⟩
def Mg.len{m:Nat}(h:Mg w (.slice A k c) m):(k=0↔m=0)∧k<=2*nl m:=by
 obtain⟨i,d,b,a⟩:=h;obtain⟨f,g,e,_⟩:=d.form;simp only[Value.slice.injEq] at e;obtain⟨_,rfl,_⟩:=e;refine⟨⟨fun h=> ?_,fun h=> ?_⟩,lJ b a⟩
 ·rw[bX h] at a;exact a.symm
 ·rw[NX b (a.trans h)];rfl
end
def bl(t:Nat):Nat:=if t=0 then 0 else t.log2+1
def NQ(w:World)(v:Value)(q:Rat):Prop:=∃s u a b,v= .agg #[.bool s,u,.bool a,b]∧NI w (.agg #[.bool s,u]) q.num∧NI w (.agg #[.bool a,b]) (bS q)
section
variable {w w':World}{v:Value}{q:Rat}
def NQ.be(h:NQ w v q)(a:Below w.1.size w w'):NQ w' v q:=by
 obtain⟨s,u,d,f,e,b,c⟩:=h;exact⟨s,u,d,f,e,b.be a,c.be a⟩
def NQ.ke(h:NQ w v q)(a:KM w w'):NQ w' v q:=by
 obtain⟨s,u,d,f,e,b,c⟩:=h;exact⟨s,u,d,f,e,b.ke a,c.ke a⟩
def NQ.drew(h:NQ w v q):NQ w.drew v q:=h.be (aG _ _).drew
def NQ.form(h:NQ w v q):∃s A k c f a d c',v= .agg #[.bool s,.slice A k c,.bool f,.slice a d c']:=by
 obtain⟨s,u,f,j,rfl,g,i⟩:=h;obtain⟨_,A,k,c,e⟩:=g.form;obtain⟨_,a,d,c',b⟩:=i.form;simp at e b;rw[e.2,b.2];exact⟨_,_,_,_,_,_,_,_,rfl⟩
def NQ.num{b:Bool}{c:Value}(h:NQ w (.agg #[.bool s,u,.bool b,c]) q):NI w (.agg #[.bool s,u]) q.num:=by
 obtain⟨_,_,_,_,e,a,d⟩:=h;simp at e;rw[e.1,e.2.1];exact a
def NQ.den{b:Value}(h:NQ w (.agg #[.bool s,u,.bool a,b]) q):NI w (.agg #[.bool a,b]) (bS q):=by
 obtain⟨_,_,_,_,e,d,c⟩:=h;simp at e;rw[e.2.2.1,e.2.2.2];exact c
def NQ.of{b:Value}{n d:Int}(f:NI w (.agg #[.bool s,u]) n)(g:NI w (.agg #[.bool a,b]) d)(c:q.num=n)(e:bS q=d):NQ w (.agg #[.bool s,u,.bool a,b]) q:=
 ⟨s,u,a,b,rfl,by rw[c];exact f,by rw[e];exact g⟩
def NQ.zero(w:World):NQ w (.agg #[.bool false,.slice none 0 0,.bool false,.slice none 0 0]) 0:=NQ.of (NI.zero w) (NI.zero w) rfl rfl
end
def oU(x:Rat):x=(x.num:Rat)/(x.den:Rat):=by rw[<-Rat.mkRat_eq_div,byC]
def yV(x y:Rat):((x.num*y.num:Int):Rat)/(((x.den:Int)*(y.den:Int):Int):Rat)=x*y:=by
 conv=>rhs;rw[oU x,oU y]
 rw[eJ,eJ,aq3,aq3];grind
def NQ.len{b:Bool}{q:Rat}(h:NQ w (.agg #[.bool s,u,.bool b,.slice A k c]) q):((k:Int)==0)=decide (q.den=1):=by
 have:=h.den.words.len.1;rw[Int.natAbs_eq_zero,fV] at this;by_cases a:q.den=1
 ·rw[this.2 a];simp[a]
 ·have:k≠0:=fun e=>a (this.1 e);simp[a,this]
def ED(x y:Rat)(h:y≠0):((x.num*(y.den:Int):Int):Rat)/(((x.den:Int)*y.num:Int):Rat)=x/y:=by
 have c:(y.num:Rat)≠0:=fun e=>h (Rat.num_eq_zero.1 (Rat.intCast_inj.1 e));have a:(y.den:Rat)≠0:=fun e=>y.den_nz (by have:=Rat.intCast_inj.1 (show((y.den:Int):Rat)=((0:Int):Rat) from e);omega);have b:(x.den:Rat)≠0:=fun e=>x.den_nz (by have:=Rat.intCast_inj.1 (show((x.den:Int):Rat)=((0:Int):Rat) from e);omega);conv=>rhs;rw[oU x,oU y]
 rw[eJ,eJ,aq3,aq3];grind
abbrev Z0:Obj:= .cells #[.bool false,.slice none 0 0] 60
class St(a:outParam World)(b:World):Prop where
 out:Below a.1.size a b
instance(w:World)(o:Obj):St w (w.alloc o):=⟨(aG _ _).alloc aE _⟩
instance(w:World):St w w.drew:=⟨(aG _ _).drew⟩
class Up(a b:World):Prop where
 out:Below a.1.size a b
instance(a:World):Up a a:=⟨aG _ _⟩
instance(a b c:World)[s:St b c][u:Up a b]:Up a c:=⟨u.out.trans (s.out.mono u.out.size)⟩
class Nw(a:World)(g:Nat):Prop where
 out:a.1.size<=g
instance(a b:World)[u:Up a b]:Nw a b.1.size:=⟨u.out.size⟩
instance(a b:World)[u:Up a b]:Nw a (b.1.size+1):=⟨Nat.le_succ_of_le u.out.size⟩
instance(a b:World)(g o:Nat)(v:Value)[n:Nw a g][u:Up a b]:Up a (b.setCell ⟨g,o,none⟩ v):=⟨u.out.setCell (p:=⟨g,o,none⟩) n.out v⟩
section
variable {a b:World}[u:Up a b]
def NatAt.up(h:NatAt a v n):NatAt b v n:=h.be u.out
def IntAt.up{n:Int}(h:IntAt a v n):IntAt b v n:=h.be u.out
def RatAt.up{n:Rat}(h:RatAt a v n):RatAt b v n:=h.be u.out
def WholeAt.up{n:List Int}(h:WholeAt a v n):WholeAt b v n:=h.be u.out
def StrsAt.up{n:List (List UInt8)}(h:StrsAt a v n):StrsAt b v n:=h.be u.out
def RatsAt.up{n:List Rat}(h:RatsAt a v n):RatsAt b v n:=h.be u.out
def Bx.up{cs:List Value}(h:Bx a g cs t):Bx b g cs t:=h.be u.out
def OwnW.up{n:List Int}(h:OwnW a g n):OwnW b g n:=h.be u.out
def OwnS.up{n:List (List UInt8)}(h:OwnS a g n):OwnS b g n:=h.be u.out
def Glob.up(h:Glob a):Glob b:=h.be u.out
def bJ(h:Below w.1.size w a):Below w.1.size w b:=h.trans (u.out.mono h.size)
end
def dd{c d:Value}(h:Bx w g [c,d] t):(C2 w g c d∧Fz w g)∧(∀o:Obj,C2 (w.alloc o) g c d∧Fz (w.alloc o) g)∧g≠w.1.size∧w.1.size≠g:=
 ⟨h.g2,fun o=>(h.alloc o).g2,bxQ h.lt,Nat.ne_of_gt h.lt⟩
end Go.Proofs.YtjgbleapffgbcaaGreatDoor
namespace Go.Proofs.YtjgbleapffgbcaaGreatDoor
open Sos
variable{x y:Rat}
def BR(x y:Rat)(h:Nat.gcd x.den y.den=1):(x+y).num=x.num*y.den+y.num*x.den∧(x+y).den=x.den*y.den:=by
 show(Rat.add x y).num=_∧(Rat.add x y).den=_
 unfold Rat.add;simp[h]
def UB(x y:Rat)(g:Nat)(b:Nat.gcd x.den y.den=g)(a:g≠1)(n:Int)(hn:n=x.num*((y.den/g:Nat):Int)+y.num*((x.den/g:Nat):Int)):
  (x+y).num=n/((Nat.gcd n.natAbs g:Nat):Int)∧(x+y).den=x.den/g*y.den/Nat.gcd n.natAbs g:=by
 subst b;subst hn;show(Rat.add x y).num=_∧(Rat.add x y).den=_
 unfold Rat.add;simp[a]
def IU(a b:Nat):(a:Int).tdiv (b:Int)=((a/b:Nat):Int):=by
 rw[Int.tdiv_eq_ediv_of_nonneg (by omega)];exact(azR a b).symm
def BS(x y:Rat)(g r:Nat)(l t n:Int)(h:g=Nat.gcd x.den y.den)(b:l=(y.den:Int).tdiv g)(a:t=(x.den:Int).tdiv g)(hn:n=x.num*l+y.num*t)(f:r=Nat.gcd n.natAbs g):
  (x+y).num=n.tdiv r∧(((x+y).den:Nat):Int)=t*(y.den:Int).tdiv r:=by
 have p:=x.den_nz;have q:=y.den_nz;have k:r∣g:=f ▸ azU _ _;have i:g∣y.den:=h ▸ azU _ _;have m:(r:Int)∣n:=Int.ofNat_dvd_left.2 (f ▸ aqX _ _);have o:r∣y.den:=bzF k i;rw[IU] at b a;rw[IU];by_cases e:g=1
 ·obtain⟨c,d⟩:=BR x y (h ▸ e);have j:r=1:=by rw[f,e];simp
  rw[e] at b a;simp only[Nat.div_one] at b a;rw[c,d,j,hn,b,a];simp
 ·obtain⟨c,d⟩:=UB x y g h.symm e n (by rw[hn,b,a]);rw[<-f] at c d;rw[c,d,a,bzN m];refine⟨rfl,?_⟩;rw[Nat.mul_div_assoc _ o];simp
def UC{g:Nat}{l t n:Int}(b:g=Nat.gcd x.den y.den)(c:l=(y.den:Int).tdiv g)(d:t=(x.den:Int).tdiv g)(hn:n=x.num*l+y.num*t)(a:n=0):x+y=0:=by
 have:=(BS x y g _ l t n b c d hn rfl).1;rw[a] at this;exact Rat.num_eq_zero.1 (by rw[this];simp)
def BT(h:x.den=1):(x+y).num=x.num*y.den+y.num∧(x+y).den=y.den:=by
 obtain⟨a,b⟩:=BR x y (by rw[h];simp);rw[a,b,h];simp
def UD(h:y.den=1):(x+y).num=y.num*x.den+x.num∧(x+y).den=x.den:=by
 obtain⟨a,b⟩:=BR x y (by rw[h];simp);rw[a,b,h];simp;omega
def wW{K:Nat}(e:RL K x)(f:RL K y):RL (2*K+1) (x+y):=by
 obtain⟨c,d⟩:=BS x y _ _ _ _ _ rfl rfl rfl rfl rfl;obtain⟨j,k⟩:=e;obtain⟨l,b⟩:=f;have g:=jN (y.den:Int) (Nat.gcd x.den y.den:Int) K b;have a:=jN (x.den:Int) (Nat.gcd x.den y.den:Int) K k;have i:=wX _ _ _ (gT _ _ _ _ j g) (gT _ _ _ _ l a);refine⟨?_,?_⟩
 ·rw[c];exact jN _ _ _ (aH i (by omega))
 ·have h:nl (((x+y).den:Nat):Int).natAbs<=K+K:=by
   rw[d];exact gT _ _ _ _ a (jN _ _ _ b)
  exact aH h (by omega)
