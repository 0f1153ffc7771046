/-
  Contracts, laws: RcoB, RcoC, RcoD, RowL.
-/
import Derived.Test.YthfnenohhindpaaGreatDoorD39
set_option linter.all false
set_option maxHeartbeats 8000000
set_option maxRecDepth 100000
namespace Go.Proofs.YthfnenohhindpaaGreatDoor
open Go.RowKit Sos
def iT (R:List Rat) (f:Rat) (j:Nat):List Rat:=(R.take j).map (·*f)++R.drop j
theorem PN (R:List Rat) (f:Rat) (j:Nat):(iT R f j).length=R.length:=by
 unfold iT;rw[aY,bK,aZ,List.length_drop];omega
theorem PO {R:List Rat} {f q:Rat} {j:Nat} (h:R[j]? =some q):(iT R f j)[j]? =some q∧(iT R f j).set j (q*f)=iT R f (j+1):=by
 obtain⟨a,rfl⟩:=List.getElem?_eq_some_iff.1 h;have b:((R.take j).map (·*f)).length=j:=by rw[bK,aZ];omega
 unfold iT;refine⟨by rw[dS (by omega),b,Nat.sub_self,List.drop_eq_getElem_cons a];rfl,?_⟩;rw[List.set_append_right j _ (by omega),b,Nat.sub_self,List.drop_eq_getElem_cons a,List.set_cons_zero,List.take_add_one,aL a,Option.toList_some,List.map_append,List.append_assoc];rfl
theorem PP (ns:List Int) (f:Rat):iT (gH ns 1) f (gH ns 1).length=aV f ns:=by
 unfold iT gH aV;rw[bK,cA (by rw[bK];exact aE),List.drop_of_length_le (by rw[bK];exact aE),List.append_nil,List.map_map];refine List.map_congr_left (fun n _=> ?_);show(n:Rat)/((1:Int):Rat)*f=f*(n:Rat)
 have a:((1:Int):Rat)=1:=rfl;rw[a];grind
theorem PR (ns:List Int) (f:Rat) (v u:Value) (w:World) (l:Glob w) (hv:WholeAt w v ns) (hu:RatAt w u f) (K:Nat) (C:∀n∈ns,nl n.natAbs<=K) (O:RL K f) (L:1<=K) (ap:K<=268435456) (hl:ns.length<=1024):
  Calls Tryz.prog 54 #[v,u] w fun e w'=>∃v',e= .returned v'∧StrsAt w' v' ((aV f ns).map bD)∧Below w.heap.size w w':=by
 obtain⟨A,c,rfl,hc⟩:=hv.form;obtain⟨F,x,D,z,G,y,E,B,rfl⟩:=hu.form;have t:nl (1:Int).natAbs<=K:=aG (bW (m:=1) (by decide)) L;have ai:=fun W u l h J=>QK ns 1 (.slice A ns.length c) u W l h J K C t (by unfold aI;omega) (by omega);have ah:∀q∈gH ns 1,RL K q:=fun q o=>by
  obtain⟨n,hn,rfl⟩:=List.mem_map.1 o;exact jC (C n hn) t L
 have M:(gH ns 1).length=ns.length:=bK _;have aj:Hid (iT (gH ns 1) f ns.length=aV f ns):=by
  have:=PP ns f;rw[M] at this;exact this
 have N:(aV f ns).length=ns.length:=eE f ns
 have s:=fun W v l h=>NV (aV f ns) v W l h (2*K) (fun q o=>by
  obtain⟨n,hn,rfl⟩:=List.mem_map.1 o;exact bU (jD O (⟨by rw[Rat.num_intCast];exact C n hn,by rw[Rat.den_intCast];exact aG (bW (m:=1) (by unfold BN;decide)) L⟩)) (by omega)) (by omega) (by rw[N];omega)
 have ag:=fun q (o:q∈gH ns 1) W v l h J=>xM q f v (.agg #[.bool F,.slice x D z,.bool G,.slice y E B]) W l h J K (ah q o) O (by unfold aI;omega);have S:=aB N;have Q:=aB M;clear N M ah t O C;generalize aV f ns=SM at *;generalize gH ns 1=r at *;obtain⟨W,T,d,X⟩:=bB w [.bool F,.slice x D z,.bool G,.slice y E B] 66;have cM:=X.g4;go_enter Tryz.func54,Tryz.ntmps54;go_wp2_with fail;(try rw[T]);clear T;refine(iM 1 _ (by decide) (by decide)).mono ?_;rintro e3 w3 ⟨v3,rfl,U,ac⟩;replace X:=X.below ac;have aq:=X.lt;replace d:=aC d ac;go_wp2_with fail;refine(ai _ _ (l.below d) (hv.below d) U).mono ?_;rintro e4 w4 ⟨g,rfl,hg,Z,ad⟩;replace X:=X.below ad;have an:w.heap.size<=g:=aG d.size hg;replace d:=aC d ad;have ab:OwnR w4 g (iT r f 0):=by
  unfold iT;rw[List.take_zero,List.drop_zero];exact Z
 have t:w.heap.size≠g:=by omega
 clear ai Z U;go_wp2_with fail;go_loopg [6,12] ns.length (fun k vi i wr=>∃j,Hid (j+k=ns.length)∧i= .int .i64 j∧OwnR wr g (iT r f j)∧Bx wr w.heap.size [.bool F,.slice x D z,.bool G,.slice y E B] 66∧Below w.heap.size w wr)
 case atStart=>exact⟨0,by unfold Hid;omega,rfl,ab,X,d⟩
 case round=>
  clear ab X d;obtain⟨j,H,rfl,R,X,d⟩:=hrel;generalize wr=wy at *;have ar:(0:Int)<=(j:Int):=by omega
  cases gk with
  |zero=>
   obtain rfl:j=ns.length:=H.out;rw[aj.out] at R;have Y:=R.rats ns.length (by rw[S.out];exact aE);rw[S.out] at Y;clear R X;go_wp2_with fail;refine(s _ _ (l.below d) Y).mono ?_;rintro e5 w5 ⟨v5,rfl,h5,al⟩;go_wp2_with fail;go_ret;exact⟨_,rfl,h5,aC d al⟩
  |succ k=>
   have ae:j<ns.length:=by have:=H.out;omega
   have au:(j:Int)<(ns.length:Int):=by omega
   obtain⟨q,o⟩:∃q,r[j]? =some q:=⟨_,aL (by rw[Q.out];exact ae)⟩;obtain⟨r1,r2⟩:=PO (f:=f) o;have af:j<(iT r f j).length:=by rw[PN,Q.out];exact ae
   obtain⟨s5,A5,k5,c5,s6,A6,k6,c6,o0,o1,o2,o3,ho⟩:=R.at_ r1;have hm:=ag q (cH o);have R2:=aB r2;have ao:=hu.below d;have ak:=l.below d;have cX:=X.k4;have av:=R.free;unfold eP at hm;clear r1 r2 o ag s;generalize q*f=p at *;generalize iT r f j=RW at *;go_wp2_with fail
   go_region_with (first
    |(go_at_call 57;(with_reducible refine(hm _ _ ak.up ho.up ao.up).mono ?_);rintro e9 P ⟨v9,rfl,V,am⟩;obtain⟨s9,A9,k9,c9,s0,A0,k0,c0,rfl⟩:=V.form;have:=St.mk am;have I:=R.below (Up.out (a:=wy) (b:=P));have f9:=I.free;have X9:=X.up (b:=P);obtain⟨t5,B5,l5,d5,t6,B6,l6,d6,q0,q1,q2,q3, -⟩:=I.at_ (aL af)))
   all_goals (
    go_wp2_with fail;obtain⟨zR,s⟩:=I.stored af V;rw[R2.out] at zR;have zX:Bx _ w.heap.size [.bool F,.slice x D z,.bool G,.slice y E B] 66:=(s.2.1 w.heap.size t).trans X9;have zb:=fS (eG (b:=P) d) s an;go_roundg k
    case rel=>exact⟨j+1,by have:=H.out;unfold Hid;omega,by go_num,zR,zX,zb⟩
    case measure=>omega)
theorem PRow.typ {w:World} {B:Nat} {e:TypeId} {v:Value} {h:List Value} (d:PRow w B e v h) {b:Nat} (a:v.ownBlock=some b):∃cur,w.heap[b]? =some (.cells cur e (0,0)):=by
 rcases d with ⟨rfl,_⟩|⟨g,i,cur,rfl,_,c,_⟩
 ·simp[Value.ownBlock] at a
 ·simp[Value.ownBlock] at a;subst a;exact⟨cur,c⟩
theorem WholeAt.grownT {w w':World} {B:Nat} {e:TypeId} {v u:Value} {t:List Value} {l:List Int} (h:WholeAt w u l) (s:PRow w B e v t) (o:e≠59) (r:Keep w w') (p:w.grownBy w' v.ownBlock):WholeAt w' u l:=by
 obtain⟨A,c,i,n,h⟩:=h;refine⟨A,c,i,n,?_⟩;rcases h with h|⟨b,j,i,d,q⟩
 ·exact .inl h
 ·refine .inr ⟨b,j,i,⟨(p.block b d.lt (fun m=> ?_)).trans d.1,d.2⟩,q.keep r⟩;obtain⟨x,k⟩:=s.typ m.symm;have a:w.heap[b]? =some (.cells j.flatten.toArray 59 (0,0)):=d.1;rw[k] at a;injection a with a;injection a with _ a;exact o a
theorem Bx.grownT {w w':World} {B g:Nat} {e t:TypeId} {v:Value} {k cs:List Value} (h:Bx w g cs t) (j:PRow w B e v k) (d:e≠t) (i:w.grownBy w' v.ownBlock):Bx w' g cs t:=by
 refine(i.block g h.lt (fun c=> ?_)).trans h;obtain⟨l,b⟩:=j.typ c.symm;have a:w.heap[g]? =some (.cells cs.toArray t (0,0)):=h;rw[b] at a;injection a with a;injection a with _ a;exact d a
def RatBx (w:World) (g:Nat) (f:Rat):Prop:=∃s1 A1 k1 c1 s2 A2 k2 c2,Bx w g [.bool s1,.slice A1 k1 c1,.bool s2,.slice A2 k2 c2] 66∧RatAt w (.agg #[.bool s1,.slice A1 k1 c1,.bool s2,.slice A2 k2 c2]) f
theorem RatBx.below {w w':World} {g:Nat} {f:Rat} (h:RatBx w g f) (a:Below w.heap.size w w'):RatBx w' g f:=by
 obtain⟨s1,A1,k1,c1,s2,A2,k2,c2,b,c⟩:=h;exact⟨s1,A1,k1,c1,s2,A2,k2,c2,b.below a,c.below a⟩
theorem RatBx.lt {w:World} {g:Nat} {f:Rat} (h:RatBx w g f):g<w.heap.size:=by
 obtain⟨s1,A1,k1,c1,s2,A2,k2,c2,a,b⟩:=h;exact a.lt
theorem RatBx.grownT {w w':World} {B g:Nat} {e:TypeId} {v:Value} {k:List Value} {f:Rat} (h:RatBx w g f) (j:PRow w B e v k) (c:e≠66) (i:Keep w w') (d:w.grownBy w' v.ownBlock):RatBx w' g f:=by
 obtain⟨s1,A1,k1,c1,s2,A2,k2,c2,a,b⟩:=h;exact⟨s1,A1,k1,c1,s2,A2,k2,c2,a.grownT j c d,b.keep i⟩
theorem PI {A:List Rat} {a:List Int} {D:Int} {o:Nat} (b:ComDen A D o) (q:aO A) (e:a=bE A D) (p:a≠[]):aV (((aR a:Int):Rat)/D) (aQ a)=A∧aV (((aR (bA a):Int):Rat)/D) (aQ (bA a))=eR A∧((aR a:Int):Rat)/D≠0∧(((aR (bA a):Int):Rat)/D≠0∨aQ (bA a)=[]):=by
 have r:=b.pos;have k:(D:Rat)≠0:=eV (by omega);have n:aO a:=by rw[e];exact kR b.pos b.dvd q
 have l:∀i,cf A i*(D:Rat)=((cf a i:Int):Rat):=fun i=>by rw[e,xV A D b.dvd]
 have m:A.length=a.length:=by rw[e,kQ]
 refine⟨?_,?_,?_,?_⟩
 ·refine kU (by rw[eE,cS,m]) (fun i=> ?_);have h:=iI a i;have c:((cf (aQ a) i:Int):Rat)*((aR a:Int):Rat)=((cf a i:Int):Rat):=by rw[<-Rat.intCast_mul,h]
  rw[eH];have d:=l i;rw[<-c] at d;grind
 ·refine kU (by rw[eE,cS,jF,lK,m]) (fun i=> ?_);have h:=iI (bA a) i;have c:((cf (aQ (bA a)) i:Int):Rat)*((aR (bA a):Int):Rat)=((cf a (i+1):Int):Rat)*((i+1:Nat):Rat):=by
   rw[<-Rat.intCast_mul,h,pG,Rat.intCast_mul];congr 1
  rw[eH,y5];have d:=l (i+1);rw[<-d] at c;grind
 ·exact mF (eV (by have:=kS n p;omega)) k
 ·by_cases j:bA a=[]
  ·exact .inr (bM (by rw[cS,j];rfl))
  ·exact .inl (mF (eV (by have:=kS (jW n) j;omega)) k)
theorem PJ {B:Nat} {a b q r:List Int} {d c:Rat} {m:Int} {C:List (List Rat)} (n:b≠[]) (h:PQRes a b B m q r) (e:d≠0∧c≠0) (o:aO b) (l:1<=B) (t:ChT B b c (aQ r) (d*(((aR r:Int):Rat)/((-m:Int):Rat))) C):ChT B a d b c (aV c b :: C):=by
 have p:=eV h.m0;refine .step n h ⟨e.1,e.2,o⟩ (fK h.r_trim) (cS r) ?_ (fun i=> ?_) (fun F hF=> ?_) (fG h.br) t
 ·by_cases j:r=[]
  ·exact .inr (bM (by rw[cS,j];rfl))
  ·exact .inl (mW e.1 (mF (eV (by have:=kS h.r_trim j;omega)) (eV (by have:=h.m0;omega))))
 ·have k:((cf (aQ r) i:Int):Rat)*((aR r:Int):Rat)=((cf r i:Int):Rat):=by rw[<-Rat.intCast_mul,iI r i]
  rw[<-k,Rat.intCast_neg];grind
 ·exact jD hF (jC (by rw[cI];exact lL h.br) (by rw[Int.natAbs_neg];exact h.bm) l)
theorem StrsAt.away {w W:World} {g:Nat} {t:TypeId} {s1 s2:Bool} {A1 A2:Option Addr} {k1 c1 k2 c2:Nat} {v:Value} {l:List (List UInt8)} (h:StrsAt w v l) (R:Bx w g [.bool s1,.slice A1 k1 c1,.bool s2,.slice A2 k2 c2] t) (u:∀k,k≠g->W.heap[k]? =w.heap[k]?) (y:w.heap.size<=W.heap.size):StrsAt W v l:=by
 obtain⟨A,c,e,r,h⟩:=h;refine⟨A,c,e,r,?_⟩;rcases h with h|⟨b,z,m,s,d⟩
 ·exact .inl h
 ·by_cases o:l=[]
  ·exact .inl o
  ·refine .inr ⟨b,z,m,aU s y,fun i x j=> ?_⟩;have q:b≠g:=fun n=>by
    subst n;have a:=d i x j;rw[cell_of_row w b _ _ _ _ R,<-Array.getElem?_toList] at a;have p:=cH a;simp at p
   exact(World.cell?_of_block (u b q)).trans (d i x j)
theorem TsAt.away {w W:World} {g B:Nat} {s1 s2:Bool} {A1 A2:Option Addr} {k1 c1 k2 c2:Nat} {v:Value} {ls:List (List (List UInt8))} (h:TsAt w B 22 v ls) (R:Bx w g [.bool s1,.slice A1 k1 c1,.bool s2,.slice A2 k2 c2] 66) (d:∀k,k≠g->W.heap[k]? =w.heap[k]?) (s:w.heap.size<=W.heap.size):TsAt W B 22 v ls:=by
 obtain⟨t,n,c,o⟩:=h;refine⟨t,?_,c,fun i u l r q=>(o i u l r q).away R d s⟩;rcases n with h|⟨b,e,j,hv,p,a,h⟩
 ·exact .inl h
 ·refine .inr ⟨b,e,j,hv,p,(d b (fun m=> ?_)).trans a,h⟩;subst m;have c:w.heap[b]? =some (.cells [Value.bool s1,.slice A1 k1 c1,.bool s2,.slice A2 k2 c2].toArray 66 (0,0)):=R;rw[c] at a;injection a with a;injection a with _ a;exact absurd a (by decide)
section
variable {W0 w:World} {g:Nat} {s1 s2:Bool} {A1 A2:Option Addr} {k1 c1 k2 c2:Nat} {f:Rat} {v:Value} {ns:List Int}
theorem PK (h:RatAt w (.agg #[.bool s1,.slice A1 k1 c1,.bool s2,.slice A2 k2 c2]) f) (hv:WholeAt w v ns) (b:Below W0.heap.size W0 w):RatBx (w.alloc (.cells #[.bool s1,.slice A1 k1 c1,.bool s2,.slice A2 k2 c2] 66)) w.heap.size f∧WholeAt (w.alloc (.cells #[.bool s1,.slice A1 k1 c1,.bool s2,.slice A2 k2 c2] 66)) v ns∧Below W0.heap.size W0 (w.alloc (.cells #[.bool s1,.slice A1 k1 c1,.bool s2,.slice A2 k2 c2] 66)):=by
 have a:Below w.heap.size w (w.alloc (.cells #[.bool s1,.slice A1 k1 c1,.bool s2,.slice A2 k2 c2] 66)):=(aH _ _).alloc aE _;exact⟨⟨_,_,_,_,_,_,_,_,Bx.new w [.bool s1,.slice A1 k1 c1,.bool s2,.slice A2 k2 c2] 66,h.below a⟩,hv.below a,aC b a⟩
theorem EJ (D:Bx w g [.bool false,.slice none 0 0,.bool false,.slice none 0 0] 66) (h:RatAt w (.agg #[.bool s1,.slice A1 k1 c1,.bool s2,.slice A2 k2 c2]) f) (hv:WholeAt w v ns) (d:Below W0.heap.size W0 w) (i:W0.heap.size<=g):
  RatBx ((((w.setCell ⟨g,0,none⟩ (.bool s1)).setCell ⟨g,1,none⟩ (.slice A1 k1 c1)).setCell ⟨g,2,none⟩ (.bool s2)).setCell ⟨g,3,none⟩ (.slice A2 k2 c2)) g f∧WholeAt ((((w.setCell ⟨g,0,none⟩ (.bool s1)).setCell ⟨g,1,none⟩ (.slice A1 k1 c1)).setCell ⟨g,2,none⟩ (.bool s2)).setCell ⟨g,3,none⟩ (.slice A2 k2 c2)) v ns∧Below W0.heap.size W0 ((((w.setCell ⟨g,0,none⟩ (.bool s1)).setCell ⟨g,1,none⟩ (.slice A1 k1 c1)).setCell ⟨g,2,none⟩ (.bool s2)).setCell ⟨g,3,none⟩ (.slice A2 k2 c2)):=by
 obtain⟨k,a,c,e,b,l⟩:=D.put4 d i (.bool s1) (.slice A1 k1 c1) (.bool s2) (.slice A2 k2 c2) rfl rfl;have j:=hv.away D (by decide) b (nY a);rw[a];exact⟨⟨_,_,_,_,_,_,_,_,c,h.keep b⟩,j,e⟩
end
theorem PL {W0 w:World} {B a b:Nat} {V X s1 s2 y z:Bool} {F G A1 A2 j k:Option Addr} {R T S U k1 c1 k2 c2 u o x q:Nat} {C p:Rat} (m:Bx w a [.bool V,.slice F R T,.bool X,.slice G S U] 66) (n:Bx w b [.bool s1,.slice A1 k1 c1,.bool s2,.slice A2 k2 c2] 66) (P:RatAt w (.agg #[.bool s1,.slice A1 k1 c1,.bool s2,.slice A2 k2 c2]) C) (Q:RatAt w (.agg #[.bool y,.slice j u o,.bool z,.slice k x q]) p) (i:a≠b) (J:B<=a) (K:B<=b) (I:Below B W0 w):
  ∃W,((((((((w.setCell ⟨a,0,none⟩ (.bool s1)).setCell ⟨a,1,none⟩ (.slice A1 k1 c1)).setCell ⟨a,2,none⟩ (.bool s2)).setCell ⟨a,3,none⟩ (.slice A2 k2 c2)).setCell ⟨b,0,none⟩ (.bool y)).setCell ⟨b,1,none⟩ (.slice j u o)).setCell ⟨b,2,none⟩ (.bool z)).setCell ⟨b,3,none⟩ (.slice k x q))=W∧RatBx W a C∧RatBx W b p∧Below B W0 W∧(∀{v l},WholeAt w v l->WholeAt W v l)∧(∀{v l},TsAt w B 22 v l->TsAt W B 22 v l):=by
 obtain⟨A,c,D,L,s,r⟩:=m.put4 I J (.bool s1) (.slice A1 k1 c1) (.bool s2) (.slice A2 k2 c2) rfl rfl;obtain⟨E,d,R2,M,t,H⟩:=(r n i).put4 L K (.bool y) (.slice j u o) (.bool z) (.slice k x q) rfl rfl;have N:w.heap.size<=A.heap.size:=by rw[<-c];simp
 have O:A.heap.size<=E.heap.size:=by rw[<-d];simp
 rw[c,d];exact⟨_,rfl,⟨_,_,_,_,_,_,_,_,H D (fun e=>i e.symm),(P.keep s).keep t⟩,⟨_,_,_,_,_,_,_,_,R2,(Q.keep s).keep t⟩,M,fun h=>(h.away m (by decide) s (nY c)).away (r n i) (by decide) t (nY d),fun h=>(h.away m (nY c) N).away (r n i) (nY d) O⟩
def gG (l:List (List Rat)):List (List (List UInt8)):=l.map (fun A=>A.map bD)
def p8 (ls:List (List UInt8)) (E:Int) (rows:List (List (List UInt8))):Prop:=(E≠0->rows=[])∧(E=0->∃a c b d C,ChT 8019 a c b d C∧aV c a=aN ls∧aV d b=eR (aN ls)∧rows=gG (aN ls :: C)∧∀X∈C,X.length<=7∧X≠[]∧∀q∈X,RL 60000 q)
def xG (w:World) (ls:List (List UInt8)) (e:Ending) (w':World):Prop:=∃v rows,e= .returned (.tuple #[v,.int .i64 (d8 ls)])∧TsAt w' w.heap.size 22 v rows∧p8 ls (d8 ls) rows∧Below w.heap.size w w'
theorem TsAt.mono' {w:World} {B a:Nat} {v:Value} {ls:List (List (List UInt8))} (h:TsAt w B 22 v ls) (j:a<=B):TsAt w a 22 v ls:=by
 obtain⟨l,d,e,i⟩:=h;refine⟨l,?_,e,i⟩;rcases d with h|⟨g,b,c,hv,k,h⟩
 ·exact .inl h
 ·exact .inr ⟨g,b,c,hv,aG j k,h⟩
theorem PM (ls:List (List UInt8)) (v:Value) (w:World) (j:Glob w) (hv:StrsAt w v ls) (hl:ls.length<=7) (hs:∀l∈ls,l.length<=6):Calls Tryz.prog 20 #[v] w (xG w ls):=by
 obtain⟨A,c,rfl,hc⟩:=hv.form;have au:=fun W j h=>uL ls (.slice A ls.length c) W j h hl hs;have ce:∀q∈aN ls,RL 1 q:=mC (fun l hl=>aG (hs l hl) (by decide));have bs:(aN ls).length=ls.length:=bK _;have ck:=pK ls;unfold pJ at au;unfold xG;have HC:Hid (∀B E,p8 ls E B->p8 ls E B):=fun _ _ h=>h;obtain⟨E,U⟩:∃E,d8 ls=E:=⟨_,rfl⟩;rw[U] at au ck⊢;clear U;go_enter Tryz.func20,Tryz.ntmps20;go_wp2_with fail;refine(au _ j hv).mono ?_;rintro e1 w1 ⟨A1,k1,c1,ey,rfl,⟨s2,A2,k2,c2,rfl⟩,a9,d⟩;obtain⟨w2,e2,bk,F⟩:=bB w1 [.bool s2,.slice A2 k2 c2] 59;replace d:=aC d bk;rcases ck with ⟨rfl,P,h0⟩|⟨rfl, -⟩|⟨rfl, -, -⟩
 ·obtain⟨D, -, -,ar,hx,hD⟩:=a9 rfl;replace hx:=hx.below bk;replace hD:=hD.below bk;have bo:(bE (aN ls) D).length=ls.length:=by rw[kQ,bs]
  have a8:bE (aN ls) D≠[]:=fun e=>h0 (bM (by rw[<-bo,e];rfl));have a2:=kR ar.pos ar.dvd (lJ P).2.2;have ao:=nZ _ D 1 _ ce ar.nl_;obtain⟨q1,q2,q3,q4⟩:=PI ar (lJ P).2.2 rfl a8;have kD:nl D.natAbs<=9:=aG ar.nl_ (by decide);obtain⟨A8,c8,e8, -⟩:=hx.form;simp only[Value.slice.injEq] at e8;obtain⟨rfl,rfl,rfl⟩:=e8;have bb:=fun W j h h'=>xH (bE (aN ls) D) D (.slice A1 (bE (aN ls) D).length c1) (.agg #[.bool s2,.slice A2 k2 c2]) W j h h' a2 9 ao kD (by unfold aI;decide) (by omega);have bn:=fun W h=>yD (bE (aN ls) D) (.slice A1 (bE (aN ls) D).length c1) W h 9 ao (by unfold aI;decide) (by omega);have td:=jW a2;have kd:=o6 ao (by omega);have ld:=jF (bE (aN ls) D);have bc:=fun W v j h h'=>xH (bA (bE (aN ls) D)) D v (.agg #[.bool s2,.slice A2 k2 c2]) W j h h' td 10 kd (by omega) (by unfold aI;decide) (by omega);have la:=cS (bE (aN ls) D);have lb:=cS (bA (bE (aN ls) D));have ka:=fG ao;have kb:=fG kd;have ta:=fK a2;have tb:=fK td;have ra:RL 9 (((aR (bE (aN ls) D):Int):Rat)/D):=jC (by rw[cI];exact lL ao) kD (by decide);have rb:RL 10 (((aR (bA (bE (aN ls) D)):Int):Rat)/D):=jC (by rw[cI];exact lL kd) (by omega) (by decide);unfold tN at bb bc;obtain⟨S,bj⟩:∃S,aN ls=S:=⟨_,rfl⟩;have bf:Hid (S=aN ls):=bj.symm;rw[bj] at bb bn td kd ld bc la lb ka kb ta tb ra rb q1 q2 q3 q4 a2 a8 bo ao bs hx⊢;clear bj;generalize bE S D=ns at *;generalize bA ns=ds at *;generalize ((aR ns:Int):Rat)/D=ab at *;generalize ((aR ds:Int):Rat)/D=af at *;generalize aQ ns=J at *;generalize aQ ds=s at *;have cm:J.length<=7:=by omega
  have cn:s.length+1=J.length:=by
   have:=List.length_pos_iff.2 a8;omega
  have HQ:=aB (And.intro q1 (And.intro q2 (And.intro q3 q4)));have cF:=F.k2;clear a9 au ar bo a8 a2 ao q1 q2 q3 q4 td kd ld la lb ce bs P h0 kD;go_wp2_with fail;(try rw[e2]);(try clear e2);refine(bb _ (j.below d) hx hD).mono ?_;rintro e3 w3 ⟨v3,u3,rfl,O,f3,al⟩;have dl:=aG d.size al.size;obtain⟨A3,c3,rfl, -⟩:=O.form;obtain⟨s4,A4,k4,c4,s5,A5,k5,c5,rfl⟩:=f3.form;obtain⟨w4,e4,ag,G9⟩:=bB w3 [.bool s4,.slice A4 k4 c4,.bool s5,.slice A5 k5 c5] 66;have i:=aC al ag;replace F:=F.below i;replace hx:=hx.below i;replace hD:=hD.below i;replace O:=O.below ag;replace f3:=f3.below ag;replace d:=aC d i;have df:=G9.lt;replace cF:=F.k2;clear bb;go_wp2_with fail;(try rw[e4]);(try clear e4);generalize w3.heap.size=g9 at *;go_cut [10,11] (fun du dv wx=>∃g A6 c6,dv= .pointer (some ⟨g,0,none⟩)∧du= .slice A6 s.length c6∧w4.heap.size<=g∧RatBx wx g af∧WholeAt wx (.slice A6 s.length c6) s∧Below w4.heap.size w4 wx)
  case first=>
   go_region_held3 (fun w'=>C2 w' w1.heap.size (.bool s2) (.slice A2 k2 c2)) (with_reducible exact F.up.k2)
    (first
     |(go_at_call 53;(with_reducible refine(bn _ hx.up).mono ?_);rintro e5 w5 ⟨v5,rfl,h5,ac⟩;have:=St.mk ac)
     |(go_at_call 52;(with_reducible refine(bc _ _ (j.below d).up h5.up hD.up).mono ?_);rintro e6 w6 ⟨v6,u6,rfl,H,f6,ah⟩;have:=St.mk ah;obtain⟨A6,c6,rfl, -⟩:=H.form;obtain⟨s7,A7,k7,c7,s8,A8,k8,c8,rfl⟩:=f6.form;have TT:=Up.out (a:=w4) (b:=w6);have t5:=ac.size;have t6:=TT.size;(try (have D6:=(Bx.newAt w4 [.bool false,.slice none 0 0,.bool false,.slice none 0 0] 66 w4.heap.size rfl).up (b:=w6);have eb:=D6.g4));(try (have D5:=(Bx.newAt w5 [.bool false,.slice none 0 0,.bool false,.slice none 0 0] 66 w5.heap.size rfl).up (b:=w6);have ea:=D5.g4))))
   all_goals (
    go_wp2_with fail;go_meet;refine⟨_,A6,c6,rfl,rfl,?_,?_⟩;rotate_left
    ·first
      |(with_reducible exact PK f6 H TT)
      |(with_reducible exact EJ D6 f6 H TT aE)
      |(with_reducible exact EJ D5 f6 H TT (by simp at t5;omega))
    ·first
      |exact aE
      |exact t6
      |(simp at t5;omega))
  case rest=>
   obtain⟨bi,A6,c6,rfl,rfl,en,a4,H,B6⟩:=hcut;generalize wc=w6 at *;have eq:=d.size;have h9:RatBx w6 g9 ab:=⟨_,_,_,_,_,_,_,_,G9.below B6,f3.below B6⟩;replace O:=O.below B6;replace d:=aC d B6;have ek:g9<w6.heap.size:=aU df B6.size;have de:w.heap.size<=bi:=by omega
   clear bn bc hx hD F cF G9 f3;have cp:=fun (ns:List Int) (f:Rat) A c s1 A1 k1 c1 s2 A2 k2 c2 W j h h' hK kf hl=>PR ns f (.slice A ns.length c) (.agg #[.bool s1,.slice A1 k1 c1,.bool s2,.slice A2 k2 c2]) W j h h' 60000 hK kf (by decide) (by decide) hl;obtain⟨dw,cu,dp,db,ex,d9,eu,eh,Q9,r9⟩:=id h9;have cQ:=Q9.k4;go_wp2_with fail;refine(cp J ab _ _ _ _ _ _ _ _ _ _ _ (j.below d) O r9 (fun n hn=>aG (ka n hn) (by decide)) (bU ra (by decide)) (by omega)).mono ?_;rintro dc R ⟨dx,rfl,K,az⟩;obtain⟨ad,ae,rfl, -⟩:=K.form;obtain⟨I,ak⟩:∃T,(aV ab J).map bD=T:=⟨_,rfl⟩;rw[ak] at K⊢;have aw:Hid (gG [S]=[I]):=by unfold Hid gG;rw[<-ak,HQ.out.1];rfl
   clear ak Q9 r9 cQ;have am:Below R.heap.size R (R.alloc (.cells #[.slice ad I.length ae] 22)):=(aH _ _).alloc aE _;have X:=Bx.new R [.slice ad I.length ae] 22;have ax:=X.cell 0 rfl;have i:=aC az am;replace K:=K.below am;replace h9:=h9.below i;replace a4:=a4.below i;replace O:=O.below i;replace H:=H.below i;replace d:=aC d i;have cl:TsAt (R.alloc (.cells #[.slice ad I.length ae] 22)) w.heap.size 22 (.slice none 0 0) []:=RowsAt.nil _ _ _ _;obtain⟨bu,o,P,a3⟩:=id cl;obtain rfl:bu=[]:=bM P;go_wp2_with (at_builtin;refine r8 rfl rfl 22 24 Tryz.underlying38 yU w.heap.size _ [] rfl o R.heap.size (.slice ad I.length ae) rfl ax ⟨_,_,_,rfl⟩ (by decide) (by decide) d.size ?_;intro v8 w8 a1 V y);have Y:=TsAt.push o P a3 K a1 y;have z3:=O.grownT o (by decide) V y;have z6:=H.grownT o (by decide) V y;have z9:=h9.grownT o (by decide) V y;have ai:=a4.grownT o (by decide) V y;have zb:=rA d y o aE;obtain⟨A8,c8,rfl, -⟩:=Y.form;have a5:Hid (([]++[I]:List (List (List UInt8)))=gG [S]):=by unfold Hid;rw[aw.out];rfl
   rw[a5.out] at Y⊢;have b3:Hid ((gG [S]).length=1):=rfl;generalize ci:gG [S]=dt at *;have b1:=aB ci;clear a1 V y o P a3 cl X ax am i K h9 a4 O H d ci aw a5;have dm:g9≠bi:=by omega
   have ch:s.length≠0->(10+1)*(J.length-s.length+2)*3^(s.length-1)<=8019:=fun h=>by
    have h2:∀x,x<=5->(10+1)*3*3^x<=8019:=by decide
    rw[show J.length-s.length+2=3 by omega];exact h2 _ (by omega)
   have bz:=aB ch;have bx:=aB cn;have ct:∀n∈J,nl n.natAbs<=10:=fun n hn=>aG (ka n hn) (by decide);have a6:RL 10 ab∧RL 10 af:=⟨bU ra (by decide),rb⟩;have ah:s.length<=6:=by omega
   have cz:Hid (∀C,ChT 8019 J ab s af C->∀X∈C,X.length<=7∧X≠[]∧∀q∈X,RL 60000 q):=fun C t X hX=>by
    obtain⟨h1,h2,O⟩:=t.sizes (by decide) 10 a6.1 a6.2 (fun n hn=>aG (kb n hn) (by decide)) X hX;have:=cZ 8019 ah;exact⟨by omega,h2,fun q hq=>bU (O q hq) (by omega)⟩
   clear ch cn ra rb ka;go_wp2_with fail
   go_loopg [7,8,10] s.length (fun k dy vb vl wr=>∃a b L N Aa ca Ab cb G F B,Hid (b.length=k)∧vb= .slice Aa a.length ca∧vl= .slice Ab b.length cb∧WholeAt wr (.slice Aa a.length ca) a∧WholeAt wr (.slice Ab b.length cb) b∧TsAt wr w.heap.size 22 dy B∧RatBx wr g9 L∧RatBx wr bi N∧Hid (aO a)∧Hid (aO b)∧Hid (L≠0∧(N≠0∨b=[]))∧Hid (RL F L∧RL F N)∧F+b.length*8019<=60000∧
    Hid (∃cs,B=gG (S :: cs)∧∀C,ChT 8019 a L b N C->ChT 8019 J ab s af (cs++C))∧(∀n∈a,nl n.natAbs<=G)∧(∀n∈b,nl n.natAbs<=G)∧1<=G∧b.length<=a.length∧a.length<=7∧B.length+b.length<=8∧Hid (b.length≠0->(G+1)*(a.length-b.length+2)*3^(b.length-1)<=8019)∧Below w.heap.size w wr)
   case atStart=>exact⟨J,s,ab,af,_,_,_,_,10,10,dt,rfl,rfl,rfl,z3,z6,Y,z9,ai,ta,tb,HQ.out.2.2,a6,by omega,⟨[],b1.out.symm,fun C h=>h⟩,ct,kb,by decide,by have:=bx.out;omega,cm,by have:=b3.out;omega,bz,zb⟩
   case round=>
    clear z3 z6 Y z9 ai zb ta tb a6 ct kb bz bx b3 b1 cm ah;obtain⟨a,b,L,N,Aa,ca,Ab,cb,G,F,B,HL,rfl,rfl,ha,an,hf,h9,ay,da,bh,bw,b2,hF,HE,ka,kb,cc,cj,eo,ep,HP,d⟩:=hrel;generalize wr=wy at *;obtain⟨Af,ej,rfl,el⟩:=hf.form;by_cases h0:b.length=0
    ·have q0:¬(0:Int)<(b.length:Int):=by omega
     have aq:b=[]:=bM h0;obtain⟨cs,ba,U⟩:=HE.out;have U:=U [] (by rw[aq];exact .done a L N);rw[List.append_nil] at U;have bg:Hid (p8 ls 0 B):=⟨fun h=>absurd rfl h,fun _=>⟨J,ab,s,af,cs,U,by rw[HQ.out.1];exact bf.out,by rw[HQ.out.2.1,bf.out],by rw[ba,bf.out],cz.out cs U⟩⟩;clear aq h0 U ba;go_wp2_with fail;go_ret2
     first
      |exact⟨_,B,rfl,hf,bg.out,d⟩
      |exact⟨_,rfl,B,hf,bg.out,d⟩
      |exact⟨B,hf,bg.out,d⟩
    ·have q0:(0:Int)<(b.length:Int):=by omega
     have aq:b≠[]:=fun e=>h0 (by rw[e];rfl);have cd:=G2 (HP.out h0) cj;obtain⟨rF,rG⟩:=b2.out;obtain⟨nF,nG⟩:=bw.out;replace nG:=nG.resolve_right aq;have pq:=fun W ha an=>tM a b (.slice Aa a.length ca) (.slice Ab b.length cb) W ha an aq da.out bh.out G _ ka kb cc aE (by unfold aI;omega) (by omega) (by omega);unfold qR at pq;obtain⟨s1,d5,er,ec,ev,d6,es,ef,Q,rq⟩:=id ay;have cQ:=Q.k4;go_wp2_with fail;refine(cp b N _ _ _ _ _ _ _ _ _ _ _ (j.below d) an rq (fun n hn=>aG (kb n hn) (by omega)) (bU rG (by omega)) (by omega)).mono ?_;rintro dc R ⟨dx,rfl,K,az⟩;obtain⟨ad,ae,rfl, -⟩:=K.form;obtain⟨I,ak⟩:∃T,(aV N b).map bD=T:=⟨_,rfl⟩;rw[ak] at K⊢;have aw:=aB ak;clear ak Q rq cQ;have am:Below R.heap.size R (R.alloc (.cells #[.slice ad I.length ae] 22)):=(aH _ _).alloc aE _;have X:=Bx.new R [.slice ad I.length ae] 22;have ax:=X.cell 0 rfl;have i:=aC az am;replace K:=K.below am;replace h9:=h9.below i;replace ay:=ay.below i;replace ha:=ha.below i;replace an:=an.below i;replace hf:=hf.below i;replace d:=aC d i;obtain⟨bu,o,P,a3⟩:=id hf;go_wp2_with (at_builtin;refine r8 rfl rfl 22 24 Tryz.underlying38 yU w.heap.size _ bu rfl o R.heap.size (.slice ad I.length ae) rfl ax ⟨_,_,_,rfl⟩ (by rw[P];omega) (by rw[P];unfold maxLen;omega) d.size ?_;intro v8 w8 a1 V y);have Y:=TsAt.push o P a3 K a1 y;have za:=ha.grownT o (by decide) V y;have av:=an.grownT o (by decide) V y;have z9:=h9.grownT o (by decide) V y;have ai:=ay.grownT o (by decide) V y;have Z:=rA d y o aE;obtain⟨A8,c8,rfl, -⟩:=Y.form;have b8:∃aj,B++[I]=gG (S :: aj)∧∀q r m C,PQRes a b 8019 m q r->ChT 8019 b N (aQ r) (L*(((aR r:Int):Rat)/((-m:Int):Rat))) C->ChT 8019 J ab s af (aj++C):=by
      obtain⟨cs,ba,U⟩:=HE.out;exact⟨cs++[aV N b],by rw[ba,<-aw.out];unfold gG;simp,fun q r m C h t=>by rw[List.append_assoc];exact U _ (PJ aq h ⟨nF,nG⟩ bh.out (by decide) t)⟩
     have bv:=aB b8;have cg:(B++[I]).length=B.length+1:=by rw[aY];rfl
     have a5:=aB cg;clear b8 cg a1 V y o P a3 hf X ax am i K h9 ay ha an d HE aw;generalize B++[I]=b7 at *;go_wp2_with fail;refine(pq _ za av).mono ?_;rintro e3 w3 ⟨vq,vr,vm,q,r,m,rfl,hq,hr,hm,bq,al⟩;obtain⟨Aq,cq,rfl, -⟩:=hq.form;obtain⟨Ar,cr,rfl,em⟩:=hr.form;obtain⟨s3,A3,k3,c3,rfl⟩:=hm.form;obtain⟨w4,e4,ag,M⟩:=bB w3 [.bool s3,.slice A3 k3 c3] 59;have i:=aC al ag;replace Y:=Y.below i;replace av:=av.below i;replace z9:=z9.below i;replace ai:=ai.below i;replace Z:=aC Z i;replace hr:=hr.below ag;replace hm:=hm.below ag;have z:=bq.mono (aG (Nat.le_succ _) cd);have bp:=fun W h=>oO m (.agg #[.bool s3,.slice A3 k3 c3]) W h (aG z.bm (by decide));have bt:=fun W v j h h'=>xH r (-m) (.slice Ar r.length cr) v W j h h' z.r_trim 8019 z.br (by rw[Int.natAbs_neg];exact z.bm) (by unfold aI;decide) (by have:=z.r_lt;omega);have rP:RL (F+8019) (L*(((aR r:Int):Rat)/((-m:Int):Rat))):=jD rF (jC (by rw[cI];exact lL z.br) (by rw[Int.natAbs_neg];exact z.bm) (by decide));have rQ:RL (F+8019) (((aR r:Int):Rat)/((-m:Int):Rat)):=bU (jC (by rw[cI];exact lL z.br) (by rw[Int.natAbs_neg];exact z.bm) (by decide)) (Nat.le_add_left _ _);have b9:∃aj,b7=gG (S :: aj)∧∀C,ChT 8019 b N (aQ r) (L*(((aR r:Int):Rat)/((-m:Int):Rat))) C->ChT 8019 J ab s af (aj++C):=by
      obtain⟨aj,h1,h2⟩:=bv.out;exact⟨aj,h1,fun C t=>h2 q r m C z t⟩
     have cv:=aB b9;have cx:Hid (L*(((aR r:Int):Rat)/((-m:Int):Rat))≠0∨aQ r=[]):=by
      by_cases hr:r=[]
      ·exact .inr (bM (by rw[cS,hr];rfl))
      ·exact .inl (mW nF (mF (eV (by have:=kS z.r_trim hr;omega)) (eV (by have:=z.m0;omega))))
     have c0:Hid (aO (aQ r)):=fK z.r_trim;have lr:=cS r;have dn:(aQ r).length<b.length:=by rw[lr];exact z.r_lt
     have cy:Hid ((aQ r).length≠0->(G+(a.length+1-b.length)*(G+1)+1)*(b.length-(aQ r).length+2)*3^((aQ r).length-1)<=8019):=fun h=>G1 (HP.out h0) dn cj h;have kr:=fG bq.br;have dq:∀n∈b,nl n.natAbs<=G+(a.length+1-b.length)*(G+1):=fun n hn=>aG (kb n hn) (Nat.le_add_right _ _);have di:1<=G+(a.length+1-b.length)*(G+1):=aG cc (Nat.le_add_right _ _);have co:=fun v u W j h h'=>xM L (((aR r:Int):Rat)/((-m:Int):Rat)) v u W j h h' (F+8019) (bU rF (Nat.le_add_right _ _)) rQ (by unfold aI;omega);unfold dB at bp;unfold tN at bt;unfold eP at co;have cw:=aB nG;clear b9 bv bq hq z cd kb rF rQ HP pq nF nG lr b2 bw ka;generalize aQ r=p at *;generalize ((aR r:Int):Rat)/((-m:Int):Rat)=fq at *;generalize L*fq=fp at *;generalize G+(a.length+1-b.length)*(G+1)=KB at *;have cM:=M.k2;go_wp2_with fail;(try rw[e4]);(try clear e4);go_wp2_with fail;refine(bp _ hm).mono ?_;rintro e5 w5 ⟨v5,rfl,h5,ac⟩;go_wp2_with fail;refine(bt _ _ (j.below (aC Z ac)) (hr.below ac) h5).mono ?_;rintro e6 w6 ⟨v6,u6,rfl,H,f6,ah⟩;obtain⟨A6,c6,rfl, -⟩:=H.form;obtain⟨s7,A7,k7,c7,s8,A8,k8,c8,rfl⟩:=f6.form;obtain⟨w7,e7,a7,X⟩:=bB w6 [.bool s7,.slice A7 k7 c7,.bool s8,.slice A8 k8 c8] 66;have ap:=ac.trans ((ah.mono ac.size).trans (a7.mono (aG ac.size ah.size)));replace Y:=Y.below ap;replace av:=av.below ap;replace z9:=z9.below ap;replace ai:=ai.below ap;replace Z:=aC Z ap;replace H:=H.below a7;replace f6:=f6.below a7;obtain⟨y1,Y1,x1,d1,y2,Y2,x2,d2,Q9,r9⟩:=z9;obtain⟨s1,A1,k1,c1,s2,A2,k2,c2,b4,dr⟩:=ai;have cX:=X.k4;have c9:=Q9.g4;have ed:=b4.g4;have dh:=j.below Z;clear bp bt al ag i ac ah a7 ap hm hr M cM;go_wp2_with fail;(try rw[e7]);(try clear e7);go_wp2_with fail
     go_region_with (first
      |(go_at_call 57;(with_reducible refine(co _ _ _ dh.up r9.up f6.up).mono ?_);rintro e8 w8 ⟨v8,rfl,h8,dj⟩;obtain⟨ew,d7,et,eg,dw,cu,dp,db,rfl⟩:=h8.form;have:=St.mk dj;have b6:=Q9.up (b:=w8);have b5:=b4.up (b:=w8);have ei:=b6.g4;have ee:=b5.g4))
     all_goals (
      go_wp2_with fail;have U8:=Up.out (a:=w7) (b:=w8);obtain⟨W,eW,RA,RB,dk,fW,fT⟩:=PL b6 b5 (dr.below U8) h8 dm dl de (aC Z U8);have d3:=fW (av.below U8);have d0:=fW (H.below U8);have d4:=fT (Y.below U8);rw[eW];go_roundg p.length
      case rel=>exact⟨b,p,N,fp,_,_,_,_,KB,F+8019,b7,rfl,rfl,rfl,d3,d0,d4,RA,RB,bh,c0,⟨cw.out,cx.out⟩,⟨bU rG (Nat.le_add_right _ _),rP⟩,by omega,cv,dq,kr,di,by omega,by omega,by have:=a5.out;omega,cy,dk⟩
      case measure=>have:=HL.out;omega)
 ·skip;clear a9 au;go_wp2_with fail;(try rw[e2]);(try clear e2);go_ret2;exact⟨_,[],rfl,RowsAt.nil _ _ _ _,⟨fun _=>rfl,(fun h=>absurd h (by decide))⟩,d⟩
 ·skip;clear a9 au;go_wp2_with fail;(try rw[e2]);(try clear e2);go_ret2;exact⟨_,[],rfl,RowsAt.nil _ _ _ _,⟨fun _=>rfl,(fun h=>absurd h (by decide))⟩,d⟩
theorem TsAt.up {a b:World} [u:Up a b] {B:Nat} {v:Value} {ls:List (List (List UInt8))} (h:TsAt a B 22 v ls):TsAt b B 22 v ls:=h.below u.out
theorem ID (ls:List (List (List UInt8))) (B t:Nat) (r s:Value) (w:World) (g:TsAt w B 22 r ls) (h:TsAt w t 22 s ls) (V:ls.length<=1024) (o:∀l∈ls,l.length<=1024):
  Calls Tryz.prog 24 #[r,s] w fun e w'=>e= .returned (.bool true)∧Below w.heap.size w w':=by
 obtain⟨A,c,rfl,R⟩:=g.form;obtain⟨G,L,rfl,S⟩:=h.form;go_enter Tryz.func24,Tryz.ntmps24;go_wp2_with fail;go_loopg [5] ls.length (fun k i wr=>∃j,Hid (j+k=ls.length)∧i= .int .i64 j∧Below w.heap.size w wr)
 case atStart=>exact⟨0,by unfold Hid;omega,rfl,aH _ _⟩
 case round=>
  obtain⟨j,f,rfl,a⟩:=hrel;generalize wr=wy at *;have T:(0:Int)<=(j:Int):=by omega
  cases gk with
  |zero=>
   have y:j=ls.length:=f.out;subst y;go_wp2_with fail;go_ret;exact⟨rfl,a⟩
  |succ k=>
   have z:j<ls.length:=by have:=f.out;omega
   have U:(j:Int)<(ls.length:Int):=by omega
   obtain⟨p,d⟩:∃p,ls[j]? =some p:=⟨_,aL z⟩;obtain⟨J,ua,rfl,Y,M,m⟩:=(g.below a).at_ d;obtain⟨K,E,rfl,Z,N,n⟩:=(h.below a).at_ d;have X:=o p (cH d);have q:=fun W u v=>TF p p ua E W u v (by omega) (by omega);have C:decide (p=p)=true:=by simp
   rw[C] at q;obtain⟨H,O,rfl, -⟩:=m.form;obtain⟨I,P,rfl, -⟩:=n.form;clear d o g h;go_wp2_with fail
   go_region_with (first
    |(go_at_call 31;(with_reducible refine(q _ m.up n.up).mono ?_);rintro Q F ⟨rfl,x⟩;have:=St.mk x))
   all_goals (
    have D:=eG (b:=F) a;go_wp2_with fail;go_roundg k
    case rel=>exact⟨j+1,by have:=f.out;unfold Hid;omega,by go_num,D⟩
    case measure=>omega)
theorem PRow.km {w w':World} {B:Nat} {e:TypeId} {v:Value} {i:List Value} (h:PRow w B e v i) (c:w.grownBy w' v.ownBlock):KM w w':=⟨c.size,fun p k x a=>by
 refine(World.cell?_of_block (c.block p.block (block_lt_of_cell a) (fun b=> ?_))).trans a;rcases h with ⟨rfl,_⟩|⟨g,l,cur,rfl,_,f,_,_,_,_,hn⟩
 ·simp[Value.ownBlock] at b
 ·simp[Value.ownBlock] at b;unfold World.cell? at a;rw[b,f] at a;simp only at a;split at a
  ·cases a
  ·rw[<-Array.getElem?_toList] at a;obtain⟨j,m,c',d⟩:=hn _ (cH a);cases d⟩
theorem QsAt.grown {w w':World} {B:Nat} {e:TypeId} {v u:Value} {r:List Value} {l:List Rat} (h:QsAt w u l) (i:PRow w B e v r) (o:e≠81) (g:w.grownBy w' v.ownBlock):QsAt w' u l:=by
 obtain⟨A,c,f,n,h⟩:=h;refine⟨A,c,f,n,?_⟩;rcases h with h|⟨b,j,f,d,q,p⟩
 ·exact .inl h
 ·refine .inr ⟨b,j,f,⟨(g.block b d.lt (fun m=> ?_)).trans d.1,d.2⟩,q,p.keep (i.km g)⟩;obtain⟨s,k⟩:=i.typ m.symm;have a:w.heap[b]? =some (.cells j.flatten.toArray 81 (0,0)):=d.1;rw[k] at a;injection a with a;injection a with _ a;exact o a
abbrev QQs:=RowsAt QsAt
theorem QQs.below {w w':World} {B:Nat} {v:Value} {ls:List (List Rat)} (h:QQs w B 71 v ls) (a:Below w.heap.size w w'):QQs w' B 71 v ls:=by
 obtain⟨g,b,c,d⟩:=h;exact⟨g,b.below a,c,fun i u l f e=>(d i u l f e).below a⟩
theorem QQs.up {a b:World} [u:Up a b] {B:Nat} {v:Value} {ls:List (List Rat)} (h:QQs a B 71 v ls):QQs b B 71 v ls:=QQs.below h u.out
theorem QQs.push {w w':World} {B:Nat} {v h u:Value} {c:List Value} {ls:List (List Rat)} {l:List Rat} (e:PRow w B 71 v c) (f:c.length=ls.length) (k:∀(i:Nat) (u:Value) (l:List Rat),c[i]? =some u->ls[i]? =some l->QsAt w u l) (n:QsAt w u l)
  (m:PRow w' B 71 h (c++[u])) (g:w.grownBy w' v.ownBlock):QQs w' B 71 h (ls++[l]):=by
 refine⟨_,m,by rw[aY,aY,f];rfl,fun i x y a b=> ?_⟩;rcases Nat.lt_or_ge i c.length with d|d
 ·rw[f8 d] at a;rw[f8 (by omega)] at b;exact(k i x y a b).grown e (by decide) g
 ·rw[dS d] at a;rw[dS (by omega),<-f] at b;have j:i-c.length=0:=by
   have:=(List.getElem?_eq_some_iff.1 a).1;simp at this;omega
  rw[j] at a b;simp at a b;subst a;subst b;exact n.grown e (by decide) g
theorem IE:(Tryz.prog.info? 71).map (fun i=>(i.zero,i.size,i.bytes))=some (some (.slice none 0 0),1,24):=by kernel_rfl
theorem KM.setRow {w:World} {g:Nat} {cur cs:Array Value} {e:TypeId} (h:w.heap[g]? =some (.cells cur e (0,0))) (hn:∀u∈cur.toList,NoInt u):KM w (w.setRow g cs):=
 ⟨by simp[World.setRow],fun p k x d=>by
  obtain⟨b,o,i⟩:=p;obtain rfl:i=none:=World.cell?_spot d;by_cases f:b=g
  ·subst f;rw[cell_of_row w b o cur e (0,0) h,<-Array.getElem?_toList] at d;exact absurd rfl (hn _ (cH d) k x)
  ·exact(World.cell?_of_block (setRow_other w g b cs f)).trans d⟩
theorem UU:(Tryz.prog.info? 81).map (·.size)=some 4:=by kernel_rfl
abbrev zR:List Value:=[.bool false,.slice none 0 0,.bool false,.slice none 0 0]
theorem UV (M:Nat):∀u∈(List.replicate M zR).flatten,NoInt u:=fun u e=>by
 obtain⟨r,d,b⟩:=List.mem_flatten.1 e;rw[(List.mem_replicate.1 d).2] at b;simp only[List.mem_cons,List.not_mem_nil,or_false] at b;rcases b with rfl|rfl|rfl|rfl<;>first|exact NoInt.bool _|exact NoInt.slice _ _ _
theorem OwnQ.copied {w:World} {g M:Nat} {rows:List (List Value)} {d:List Rat} (k:Rw w g 4 (List.replicate M zR) 81) (m:∀r∈rows,r.length=4) (f:rows.length=d.length) (z:d.length<=M) (hi:QRow w rows d):
  let W:=w.setRow g (rows.flatten++(List.replicate M zR).flatten.drop rows.flatten.length).toArray
  OwnQ W g (d++List.replicate (M-d.length) 0)∧oG g w W:=by
 have e:w.heap[g]? =some (.cells (List.replicate M zR).flatten.toArray 81 (0,0)):=k.1;have t:∀u∈(List.replicate M zR).flatten.toArray.toList,NoInt u:=UV M;have p:KM w (w.setRow g (rows.flatten++(List.replicate M zR).flatten.drop rows.flatten.length).toArray):=KM.setRow e t;have C:rows.flatten++(List.replicate M zR).flatten.drop rows.flatten.length=(rows++List.replicate (M-d.length) zR).flatten:=by
  rw[kG m,f,FT _ 4 _ _ rfl z,List.flatten_append]
 refine⟨⟨rows++List.replicate (M-d.length) zR,⟨?_,fun r k=> ?_⟩,by simp[f],fun i n hn=> ?_⟩,p,fun x n D=>FR e t D,fun b B=>setRow_other w g b _ B,by simp[World.setRow],rfl,rfl,rfl⟩
 ·unfold Bx;rw[<-C];exact setRow_heap w g _ _ _ _ e
 ·rcases List.mem_append.1 k with h|h
  ·exact m r h
  ·rw[(List.mem_replicate.1 h).2];rfl
 ·rcases Nat.lt_or_ge i d.length with h|h
  ·rw[f8 h] at hn;obtain⟨s,A,l,c,s',A',l',c',v,y⟩:=hi i n hn;exact⟨s,A,l,c,s',A',l',c',by rw[f8 (by omega)];exact v,y.keep p⟩
  ·rw[dS h] at hn;have j:=(List.getElem?_eq_some_iff.1 hn).1;rw[cN] at j;rw[List.getElem?_replicate,if_pos j] at hn;injection hn with hn;subst hn;exact⟨false,none,0,0,false,none,0,0,by rw[dS (by omega),f,List.getElem?_replicate,if_pos j],NQ.zero _⟩
section
variable {w:World} {ops:Array Oper} {rest:List Oper} {o:Oper} {a:Act} {Q:Exit->Act->World->Prop}
theorem UW (x:o.guard=none) {d s:Operand} (z:o.op= .call { callee:= .builtin .copy,args:= #[d,s],argTypes:= #[71,71] }) {g M c':Nat} (u:a.eval d= .slice (some ⟨g,0,none⟩) M c') (e:Rw w g 4 (List.replicate M zR) 81)
  {A:Option Addr} {l c:Nat} {b:List Rat} (E:a.eval s= .slice A l c) (C:QsAt w (.slice A l c) b) (i:b.length<=M)
  (h:∀w',OwnQ w' g (b++List.replicate (M-b.length) 0)->oG g w w'->wpList Tryz.prog ops Q rest (a.put o.dst (goInt l)) w'):wpList Tryz.prog ops Q (o :: rest) a w:=by
 obtain⟨f,m,rfl,j,D,y,B⟩:=C.srcs;have n:f.flatten.length=b.length*4:=by rw[kG j,m]
 have v:f.flatten.length<=(List.replicate M zR).flatten.toArray.size:=by
  rw[n,List.size_toArray,kG (k:=4) (fun r e=>by rw[(List.mem_replicate.1 e).2];rfl),cN];omega
 obtain⟨p,t⟩:=OwnQ.copied e j m i y;exact TC x z 81 4 g M c' A b.length c _ 81 f.flatten Tryz.underlying71 UU (by decide) u E e.1 n i D v B (h _ p t)
end
theorem GM {l:List Rat} {g:Nat->Rat} {i k m:Nat} (b:i+k=m) (h:m<l.length):(fH l g i k)[m]? =some (cf l m)∧m<(fH l g i k).length∧(fH l g i k).set m (g m)=fH l g i (k+1):=by
 subst b;exact⟨SY h,by rw[lN];exact h,SZ h⟩
theorem QsAt.cell {w:World} {A:Option Addr} {c:Nat} {e:List Rat} (h:QsAt w (.slice A e.length c) e) {i:Nat} (hi:i<e.length):
  ∃b s B m d s' f k j,A=some ⟨b,0,none⟩∧b<w.heap.size∧R4 w b (i*4) (.bool s) (.slice B m d) (.bool s') (.slice f k j)∧NQ w (.agg #[.bool s,.slice B m d,.bool s',.slice f k j]) (cf e i):=
 h.at_ (by rw[aL hi,<-eJ hi])
def QVar (w:World) (b:Nat) (q:Rat):Prop:=∃s A l c s' A' l' c',Bx w b [.bool s,.slice A l c,.bool s',.slice A' l' c'] 81∧NQ w (.agg #[.bool s,.slice A l c,.bool s',.slice A' l' c']) q
section
variable {W0 w:World} {g:Nat} {q:Rat} {s s':Bool} {A A':Option Addr} {l c l' c':Nat}
theorem QVar.below {w':World} (h:QVar w g q) (b:Below w.heap.size w w'):QVar w' g q:=by
 obtain⟨s,A,l,c,s',A',l',c',d,e⟩:=h;exact⟨s,A,l,c,s',A',l',c',d.below b,e.below b⟩
theorem QVar.step {w':World} {b:Nat} (h:QVar w g q) (d:oG b w w') (i:g≠b):QVar w' g q:=by
 obtain⟨s,A,l,c,s',A',l',c',e,f⟩:=h;exact⟨s,A,l,c,s',A',l',c',(d.2.2.1 g i).trans e,f.keep d.1⟩
theorem QVar.up {b:World} [u:Up w b] (h:QVar w g q):QVar b g q:=h.below u.out
theorem GN (h:NQ w (.agg #[.bool s,.slice A l c,.bool s',.slice A' l' c']) q) (b:Below W0.heap.size W0 w):QVar (w.alloc (.cells #[.bool s,.slice A l c,.bool s',.slice A' l' c'] 81)) w.heap.size q∧Below W0.heap.size W0 (w.alloc (.cells #[.bool s,.slice A l c,.bool s',.slice A' l' c'] 81)):=
 ⟨⟨_,_,_,_,_,_,_,_,Bx.new _ _ _,h.below ((aH _ _).alloc aE _)⟩,b.alloc b.size _⟩
theorem GO (D:Bx w g zR 81) (h:NQ w (.agg #[.bool s,.slice A l c,.bool s',.slice A' l' c']) q) (d:Below W0.heap.size W0 w) (j:W0.heap.size<=g):
  QVar ((((w.setCell ⟨g,0,none⟩ (.bool s)).setCell ⟨g,1,none⟩ (.slice A l c)).setCell ⟨g,2,none⟩ (.bool s')).setCell ⟨g,3,none⟩ (.slice A' l' c')) g q∧Below W0.heap.size W0 ((((w.setCell ⟨g,0,none⟩ (.bool s)).setCell ⟨g,1,none⟩ (.slice A l c)).setCell ⟨g,2,none⟩ (.bool s')).setCell ⟨g,3,none⟩ (.slice A' l' c')):=by
 obtain⟨k,e,b,f,i, -⟩:=D.mut4 d j (.bool s) (.slice A l c) (.bool s') (.slice A' l' c') rfl rfl;rw[e];exact⟨⟨_,_,_,_,_,_,_,_,b,h.keep i⟩,f⟩
end
