/- Laws. -/
import Derived.Test.YtmiaanioldpfgaaGreatDoorProg
import Derived.Test.YtmiaanioldpfgaaGreatDoorX01
import Derived.WalkKit
import Derived.WalkSpells
import Derived.WalkLawsBesides
import Derived.Deep.QuietTactic
import Derived.BigQuiet
import Derived.Lib.Hide
import Derived.Laws.CopyOwn
import Derived.Maps.AppendAt
import Derived.Laws.OwnMore
import Derived.Shelf.Spec.BitsCarry
import Derived.Lib.TrailingZeros
import Derived.Shelf.Spec.TrailingZeros
import Derived.Ground.Names7Prog
import Derived.Shelf.Small.Bits
import Derived.Shelf.Small.Wraps
import Derived.Shelf.Strconv.Itoa0
import Derived.Shelf.Strconv.Itoa1
import Derived.Shelf.LaysM
import Derived.Shelf.Strconv.Itoa2
import Derived.Shelf.Strconv.Itoa3
import Derived.Shelf.Strconv.Itoa4
import Derived.Shelf.Strconv.AppendUint10
import Derived.Shelf.Strconv.AppendInt10
import Derived.Shelf.Strings.Prefix
import Derived.Shelf.Bits.Mul64
import Derived.Deep.RegionWith
import Derived.Deep.RegionHeld3
import Derived.Deep.DeepCutAuto
set_option linter.all false
set_option maxHeartbeats 8000000
set_option maxRecDepth 99999
namespace Go.Proofs.YtmiaanioldpfgaaGreatDoor
variable{a b e l:List Int}{i j k n v:Nat}{m s vars x:Int}{p:List Rat}
def cF:List Int->Int
 |[]=>0
 |x :: r=>x+cF r
def fzW(a b:List Int):cF (a++b)=cF a+cF b:=by
 induction a with
 |nil=>simp[cF]
 |cons x r c=>simp only[List.cons_append,cF,c];omega
def Y8(h:a[k]? =some x):cF (a.take (k+1))=cF (a.take k)+x:=by
 rw[List.take_add_one,h,fzW];simp[cF]
def ezD(h:∀x∈a,0<=x):0<=cF a:=by
 induction a with
 |nil=>exact Int.le_refl 0
 |cons x r c=>
  have:=h x (by simp);have:=c (fun y b=>h y (by simp[b]));simp only[cF];omega
def fxU(h:∀x∈a,x<=m):cF a<=a.length*m:=by
 induction a with
 |nil=>simp[cF]
 |cons x r c=>
  have:=h x (by simp);have:=c (fun y b=>h y (by simp[b]));simp only[cF,List.length_cons];rw[show((r.length+1:Nat):Int)=(r.length:Int)+1 by omega,Int.add_mul,Int.one_mul];omega
def E1(a b:List Int):Nat->Int
 |0=>0
 |n+1=>if a.getD n 0=b.getD n 0 then E1 a b n else if a.getD n 0<b.getD n 0 then 1 else -1
def nA(x y:Int):Int:=if x<y then -1 else if y<x then 1 else 0
def eZ(a b:List Int):Int:=if cF a=cF b then E1 a b a.length else nA (cF a) (cF b)
def fzX(h:0<eZ a b):cF b<=cF a:=by
 unfold eZ nA at h;split at h
 ·omega
 ·split at h
  ·omega
  ·omega
def tM(s:Int):List Int->Int
 |[]=>s
 |x :: r=>if x<0∨24-s<x then -1 else tM (s+x) r
def gX(e:List Int):Int:=if 6<e.length then -1 else tM 0 e
def fzY(c:0<=s)(h:0<=tM s l):tM s l=s+cF l∧s+cF l<=max s 24:=by
 induction l generalizing s with
 |nil=>simp only[tM,cF] at *;omega
 |cons x r b=>
  simp only[tM,cF] at *;split at h
  ·omega
  ·rename_i a;rw[if_neg a];have:=b (s:=s+x) (by omega) h;omega
def eq2(a:∀x∈l,0<=x)(h:s+cF l<=24):tM s l=s+cF l:=by
 induction l generalizing s with
 |nil=>simp[tM,cF]
 |cons x r c=>
  have d:=ezD (fun y b=>a y (List.mem_cons_of_mem _ b));have e:=a x (by simp);simp only[tM,cF] at *;rw[if_neg (by omega),c (fun y b=>a y (by simp[b])) (by omega)];omega
def ezE(h:0<=gX e):gX e=cF e∧cF e<=24∧e.length<=6:=by
 unfold gX at *;split at h
 ·omega
 ·rename_i a;rw[if_neg a];have:=fzY (Int.le_refl 0) h;omega
abbrev Te:=List UInt8×List Int
def p4(vars:Int)(t:Te):Bool:=(match cG t.1 with|none=>false|some q=>decide (q≠0))&&(decide ((t.2.length:Int)=vars)&&t.2.all (fun e=>decide (0<=e∧e<=1048576)))
def pA(vars:Int)(ts:List Te)(i:Nat):Bool:=match ts[i]? with
 |none=>true
 |some t=>p4 vars t&&(decide (i=0)||decide (0<eZ (match ts[i-1]? with|none=>[]|some u=>u.2) t.2))
def I5(vars:Int)(ts:List Te):Bool:=(List.range ts.length).all (pA vars ts)
def ezF(ts:List Te):Bool:=match ts with|[]=>true|t :: _=>decide (0<=gX t.2)
def tN(vars:Int)(ts:List Te):Bool:=decide (ts.length<=4096)&&(decide (0<=vars∧vars<=6)&&(I5 vars ts&&ezF ts))
def ezG{ts:List Te}:I5 vars ts=true↔∀i<ts.length,pA vars ts i=true:=by
 unfold I5;rw[List.all_eq_true];exact⟨fun h i a=>h i (List.mem_range.2 a),fun h i a=>h i (List.mem_range.1 a)⟩
def Y9{t:Te}(h:p4 vars t=true):(∃q,cG t.1=some q∧q≠0)∧(t.2.length:Int)=vars∧∀e∈t.2,0<=e∧e<=1048576:=by
 unfold p4 at h;simp only[Bool.and_eq_true,decide_eq_true_eq,List.all_eq_true] at h;refine⟨?_,h.2.1,h.2.2⟩;cases hr:cG t.1 with
 |none=>rw[hr] at h;simp at h
 |some q=>rw[hr] at h;exact⟨q,rfl,by simpa using h.1⟩
def ezH{ts:List Te}{t:Te}(h:pA vars ts i=true)(b:ts[i]? =some t):p4 vars t=true∧∀u,0<i->ts[i-1]? =some u->0<eZ u.2 t.2:=by
 unfold pA at h;rw[b] at h;simp only[Bool.and_eq_true,Bool.or_eq_true,decide_eq_true_eq] at h;refine⟨h.1,fun u d c=> ?_⟩;rcases h.2 with a|a
 ·omega
 ·rw[c] at a;exact a
def ezI{ts:List Te}{t:Te}(a:ts[i]? =some t)(h:p4 vars t=true)(c:∀u,0<i->ts[i-1]? =some u->0<eZ u.2 t.2):pA vars ts i=true:=by
 unfold pA;rw[a];simp only[Bool.and_eq_true,Bool.or_eq_true,decide_eq_true_eq];refine⟨h,?_⟩;by_cases d:i=0
 ·exact .inl d
 ·right;have e:=(List.getElem?_eq_some_iff.1 a).1;have b:ts[i-1]? =some ts[i-1]:=List.getElem?_eq_getElem (by omega);rw[b];exact c _ (by omega) b
def TL{ts:List Te}{t u:Te}(d:ts[i]? =some t)(h:p4 vars t=false∨(0<i∧ts[i-1]? =some u∧¬0<eZ u.2 t.2)):pA vars ts i=false:=by
 cases ho:pA vars ts i with
 |false=>rfl
 |true=>
  have:=ezH ho d;rcases h with h|⟨a,b,c⟩
  ·rw[h] at this;exact absurd this.1 (by decide)
  ·exact absurd (this.2 u a b) c
def TR{ts:List Te}(hi:i<ts.length)(h:pA vars ts i=false):I5 vars ts=false:=by
 cases hw:I5 vars ts with
 |false=>rfl
 |true=>rw[ezG.1 hw i hi] at h;exact absurd h (by decide)
structure PV(vars:Int)(ts:List Te):Prop where
 len:ts.length<=4096
 v0:0<=vars
 v6:vars<=6
 ok:∀t∈ts,(∃q,cG t.1=some q∧q≠0)∧(t.2.length:Int)=vars∧∀e∈t.2,0<=e∧e<=1048576
 ord:∀i t u,ts[i]? =some u->ts[i+1]? =some t->0<eZ u.2 t.2
 top:∀t,ts[0]? =some t->0<=gX t.2
def ezJ{ts:List Te}:tN vars ts=true↔PV vars ts:=by
 unfold tN;simp only[Bool.and_eq_true,decide_eq_true_eq];constructor
 ·rintro ⟨d,⟨e,f⟩,c,j⟩;rw[ezG] at c;refine⟨d,e,f,fun t a=> ?_,fun i t u g a=> ?_,fun t a=> ?_⟩
  ·obtain⟨i,b,rfl⟩:=List.mem_iff_getElem.1 a;exact Y9 (ezH (c i b) (List.getElem?_eq_getElem b)).1
  ·have l:=(List.getElem?_eq_some_iff.1 a).1;exact(ezH (c _ l) a).2 u (by omega) g
  ·unfold ezF at j;cases ts with
   |nil=>simp at a
   |cons x r=>simp at a;subst a;simpa using j
 ·intro h;refine⟨h.len,⟨h.v0,h.v6⟩,ezG.2 fun i b=>ezI (List.getElem?_eq_getElem b) ?_ ?_,?_⟩
  ·obtain⟨⟨q,d,e⟩,f,c⟩:=h.ok _ (List.getElem_mem b);unfold p4;rw[d];simp only[Bool.and_eq_true,decide_eq_true_eq,List.all_eq_true];exact⟨e,f,c⟩
  ·intro u k g;exact h.ord (i-1) _ u g (by rw[Nat.sub_add_cancel k];exact List.getElem?_eq_getElem b)
  ·unfold ezF;cases ts with
   |nil=>rfl
   |cons x r=>simpa using h.top x rfl
section
variable {vars:Int}{ts:List Te}
def PV.sum(h:PV vars ts){t u:Te}(a:ts[i]? =some t)(b:ts[0]? =some u):0<=cF t.2∧cF t.2<=cF u.2∧cF u.2<=24:=by
 refine⟨ezD fun e d=>((h.ok t (List.mem_of_getElem? a)).2.2 e d).1,?_,(ezE (h.top u b)).2.1⟩;induction i generalizing t with
 |zero=>rw[b] at a;injection a with e;rw[e];exact Int.le_refl _
 |succ i f=>
  have g:=(List.getElem?_eq_some_iff.1 a).1;have c:ts[i]? =some ts[i]:=List.getElem?_eq_getElem (by omega);exact Int.le_trans (fzX (h.ord i t _ c a)) (f c)
end
def pB(i:Nat)(e:List Int):Bool:=(List.range e.length).all (fun v=>decide (v=i)||decide (e.getD v 0=0))
def ezK:pB i e=true↔∀v<e.length,v≠i->e.getD v 0=0:=by
 unfold pB;rw[List.all_eq_true];simp only[List.mem_range,Bool.or_eq_true,decide_eq_true_eq]
 exact⟨fun h v hv hn=>(h v hv).resolve_left hn,fun h v hv=>by
  by_cases hn:v=i
  ·exact .inl hn
  ·exact .inr (h v hv hn)⟩
def eqP(h:∀x∈e,0<=x)(i:Nat):e.getD i 0<=cF e:=by
 induction e generalizing i with
 |nil=>simp[cF]
 |cons x r b=>
  have c:=ezD (fun y a=>h y (List.mem_cons_of_mem _ a));have d:=h x (by simp);cases i with
  |zero=>simp[cF];omega
  |succ i=>
   have:=b (fun y a=>h y (List.mem_cons_of_mem _ a)) i;simp[cF] at this⊢;omega
def fxV(h:∀x∈e,0<=x)(i:Nat):(∀v<e.length,v≠i->e.getD v 0=0)↔e.getD i 0=cF e:=by
 induction e generalizing i with
 |nil=>simp[cF]
 |cons x r o=>
  have b:∀y∈r,0<=y:=fun y c=>h y (List.mem_cons_of_mem _ c);have p:=ezD b;have q:=h x (by simp);cases i with
  |zero=>
   simp only[List.getD_cons_zero,cF];constructor
   ·intro d;have n:∀y∈r,y=0:=fun y c=>by
     obtain⟨v,hv,rfl⟩:=List.mem_iff_getElem.1 c;have:=d (v+1) (by simp;omega) (by omega);rwa [List.getD_cons_succ,List.getD_eq_getElem?_getD,List.getElem?_eq_getElem hv] at this
    have:=fxU (a:=r) (m:=0) (fun y c=>by rw[n y c];exact Int.le_refl 0);simp at this;omega
   ·intro l v hv hn;obtain⟨v,rfl⟩:∃k,v=k+1:=⟨v-1,by omega⟩;rw[List.getD_cons_succ];have:=eqP b v;have f:0<=r.getD v 0:=by
     rw[List.getD_eq_getElem?_getD];cases g:r[v]? with
     |none=>simp
     |some y=>exact b y (List.mem_of_getElem? g)
    omega
  |succ i=>
   have:=o b i;have g:=eqP b i;simp only[List.getD_cons_succ,cF];constructor
   ·intro d;have j:=d 0 (by simp) (by omega);have f:=this.1 (fun v hv hn=>by have:=d (v+1) (by simp;omega) (by omega);simpa using this);simp at j;omega
   ·intro l;have f:=this.2 (by omega);intro v hv hn;cases v with
    |zero=>simp;omega
    |succ v=>simp;simpa using f v (by simpa using hv) (by omega)
def gH{α:Type}(z:α)(i n:Nat)(ts:List (α×List Int)):List α:=ts.foldl (fun r t=>r.set (t.2.getD i 0).toNat t.1) (List.replicate n z)
def U6{α:Type}{z:α}{ts:List (α×List Int)}:(gH z i n ts).length=n:=by
 unfold gH;suffices h:∀l:List α,(ts.foldl (fun r t=>r.set (t.2.getD i 0).toNat t.1) l).length=l.length by rw[h,List.length_replicate]
 induction ts with
 |nil=>intro l;rfl
 |cons t r a=>intro l;rw[List.foldl_cons,a,List.length_set]
def fxW{α:Type}{z:α}{ts:List (α×List Int)}{t:α×List Int}(h:ts[k]? =some t):gH z i n (ts.take (k+1))=(gH z i n (ts.take k)).set (t.2.getD i 0).toNat t.1:=by
 unfold gH;rw[List.take_add_one,h,List.foldl_append];rfl
def fxX{α β:Type}(f:α->β){z:α}{ts:List (α×List Int)}:(gH z i n ts).map f=gH (f z) i n (ts.map fun t=>(f t.1,t.2)):=by
 unfold gH;rw[<-List.map_replicate];generalize List.replicate n z=l;induction ts generalizing l with
 |nil=>rfl
 |cons t r a=>rw[List.foldl_cons,a,List.map_cons,List.foldl_cons,List.map_set]
def bG(v i k:Nat):List Int:=(List.replicate v 0).set i (k:Int)
def kE(v i k:Nat):(bG v i k).length=v:=by unfold bG;rw[List.length_set,List.length_replicate]
def Z8(k j:Nat)(h:i<v):(bG v i k).getD j 0=if j=i then (k:Int) else 0:=by
 unfold bG;rw[List.getD_eq_getElem?_getD,List.getElem?_set];simp only[List.length_replicate];by_cases e:i=j
 ·subst e;rw[if_pos rfl,if_pos h,if_pos rfl];rfl
 ·rw[if_neg e,if_neg (fun x=>e x.symm),List.getElem?_replicate];split<;>rfl
def I6(h:x∈bG v i k):x=0∨x=k:=by
 unfold bG at h;rcases List.mem_or_eq_of_mem_set h with h|h
 ·exact .inl (List.eq_of_mem_replicate h)
 ·exact .inr h
def dz1(k:Nat)(h:i<v):cF (bG v i k)=k:=by
 have:=(fxV (e:=bG v i k) (fun x a=>by rcases I6 a with h|h<;>omega) i).1 (fun j b hn=>by rw[Z8 k j h,if_neg hn]);rw[<-this,Z8 k i h,if_pos rfl]
def eq3(a b:Nat)(h:i<v):eZ (bG v i a) (bG v i b)=nA a b:=by
 unfold eZ;rw[dz1 a h,dz1 b h];split
 ·rename_i e;have e:a=b:=by omega
  subst e;unfold nA;rw[if_neg (by omega),if_neg (by omega)];generalize (bG v i a).length=n;induction n with
  |zero=>rfl
  |succ n c=>unfold E1;rw[if_pos rfl];exact c
 ·rfl
def tP(p:List Rat):List Nat:=((List.range p.length).filter (fun k=>decide (p.getD k 0≠0))).reverse
def eq4:k∈tP p↔k<p.length∧p.getD k 0≠0:=by
 unfold tP;rw[List.mem_reverse,List.mem_filter,List.mem_range,decide_eq_true_eq]
def fzZ(p:List Rat):(tP p).Pairwise (fun x y=>y<x):=by
 unfold tP;rw[List.pairwise_reverse];exact List.Pairwise.filter _ List.pairwise_lt_range
def eq5(p:List Rat):(tP p).length<=p.length:=by
 unfold tP;rw[List.length_reverse];exact Nat.le_trans (List.length_filter_le _ _) (by rw[List.length_range];exact Nat.le_refl _)
def tG(v i:Nat)(p:List Rat):List (Rat×List Int):=(tP p).map (fun k=>(p.getD k 0,bG v i k))
def kW(v i:Nat)(p:List Rat):List Te:=(tG v i p).map (fun t=>(cW t.1,t.2))
def fq1(h:(tP p)[j]? =some k):(tG v i p)[j]? =some (p.getD k 0,bG v i k):=by
 unfold tG;rw[List.getElem?_map,h];rfl
def fq3(h:(tP p)[j]? =some k):(kW v i p)[j]? =some (cW (p.getD k 0),bG v i k):=by
 unfold kW;rw[List.getElem?_map,fq1 h];rfl
def eq6(v i:Nat)(p:List Rat):(kW v i p).length=(tP p).length:=by unfold kW tG;rw[List.length_map,List.length_map]
def U7{t:Te}(h:(kW v i p)[j]? =some t):∃k,(tP p)[j]? =some k∧t=(cW (p.getD k 0),bG v i k)∧k<p.length∧p.getD k 0≠0:=by
 have a:=(List.getElem?_eq_some_iff.1 h).1;rw[eq6] at a;have b:(tP p)[j]? =some (tP p)[j]:=List.getElem?_eq_getElem a;rw[fq3 b] at h;injection h with h;exact⟨_,b,h.symm,eq4.1 (List.getElem_mem a)⟩
def fxY(hv:v<=6)(hi:i<v)(z:p.length<=25):PV v (kW v i p):=by
 refine⟨?_,by omega,by omega,fun t c=> ?_,fun j t u r c=> ?_,fun t c=> ?_⟩
 ·rw[eq6];have:=eq5 p;omega
 ·obtain⟨j,q,rfl⟩:=List.mem_iff_getElem.1 c;obtain⟨k,d,f,m,n⟩:=U7 (List.getElem?_eq_getElem q);rw[f];refine⟨⟨_,SU _,n⟩,by rw[kE],fun e o=> ?_⟩;rcases I6 o with h|h<;>omega
 ·obtain⟨a,d,rfl, -⟩:=U7 r;obtain⟨b,f,rfl, -⟩:=U7 c;show 0<eZ (bG v i a) (bG v i b)
  rw[eq3 a b hi];obtain⟨w,g⟩:=List.getElem?_eq_some_iff.1 d;obtain⟨y,l⟩:=List.getElem?_eq_some_iff.1 f;have:=List.pairwise_iff_getElem.1 (fzZ p) j (j+1) w y (by omega);rw[g,l] at this;unfold nA;rw[if_neg (by omega),if_pos (by omega)];decide
 ·obtain⟨k,d,rfl,m, -⟩:=U7 c;unfold gX;rw[if_neg (by show¬6<(bG v i k).length;rw[kE];omega)];have A:=dz1 k hi;show 0<=tM 0 (bG v i k)
  rw[eq2 (fun x s=>by rcases I6 s with h|h<;>omega) (by omega)];omega
def fq4(hi:i<v):∀t∈kW v i p,pB i t.2=true:=fun t d=>by
 obtain⟨j,c,rfl⟩:=List.mem_iff_getElem.1 d;obtain⟨k,e,b, -⟩:=U7 (List.getElem?_eq_getElem c);rw[b,ezK];intro a f hn;rw[Z8 k a hi,if_neg hn]
def fq5(hi:i<v)(hn:p.length=n):gH 0 i n (tG v i p)=p:=by
 subst hn;refine List.ext_getElem? fun j=> ?_;have o:∀(l:List Nat) (r:List Rat),(∀k∈l,k<p.length)->r.length=p.length->((l.map (fun k=>(p.getD k 0,bG v i k))).foldl (fun r t=>r.set (t.2.getD i 0).toNat t.1) r)[j]? =if j∈l then p[j]? else r[j]? :=by
  intro l;induction l with
  |nil=>intro r _ _;simp
  |cons k l m=>
   intro r c g;rw[List.map_cons,List.foldl_cons,m _ (fun x h=>c x (by simp[h])) (by rw[List.length_set];exact g)];by_cases a:j∈l
   ·rw[if_pos a,if_pos (List.mem_cons_of_mem _ a)]
   ·rw[if_neg a];have e:((bG v i k).getD i 0).toNat=k:=by rw[Z8 k i hi,if_pos rfl];rfl
    show(r.set ((bG v i k).getD i 0).toNat (p.getD k 0))[j]? =_
    rw[e,List.getElem?_set];by_cases d:k=j
    ·subst d;have:=c k (by simp);rw[if_pos rfl,if_pos (by omega),if_pos (by simp),List.getD_eq_getElem?_getD,List.getElem?_eq_getElem this];rfl
    ·rw[if_neg d,if_neg (by simp[a];exact fun x=>d x.symm)]
 unfold gH tG;rw[o _ _ (fun k c=>(eq4.1 c).1) List.length_replicate];split
 ·rfl
 ·rename_i a;rw[eq4] at a;by_cases b:j<p.length
  ·have e:p.getD j 0=0:=by
    by_cases f:p.getD j 0=0
    ·exact f
    ·exact absurd ⟨b,f⟩ a
   rw[List.getD_eq_getElem?_getD,List.getElem?_eq_getElem b] at e;rw[List.getElem?_replicate,if_pos b,List.getElem?_eq_getElem b];exact congrArg some (by simpa using e.symm)
  ·rw[List.getElem?_replicate,if_neg b,List.getElem?_eq_none (by omega)]
end Go.Proofs.YtmiaanioldpfgaaGreatDoor
namespace Go.Proofs.YtmiaanioldpfgaaGreatDoor
open Go.RowKit Sos Tryz
variable{a b w w' w1:World}{B c c' dCap dLen g i j k m n sCap sLen u0 u1 x:Nat}{d e s:Option Nat}{xs ys zs:List Int}{cs cur vs:List Value}{dT sT t:TypeId}{A dp sp:Option Addr}{P:Program}{f:FuncId}{v:Value}{C L T u2 y:Int}
def Cells(k:IntKind)(w:World)(g off:Nat)(zs:List Int):Prop:=∀i,i<zs.length->w.cell? ⟨g,off+i,none⟩=some (.int k (zs.getD i 0))
def Soft(w:World)(g:Nat):Prop:=∃cur t,w.heap[g]? =some (.cells cur t (0,0))
def VC(w:World)(g off:Nat)(cs:List Value):Prop:=∀i v,cs[i]? =some v->w.cell? ⟨g,off+i,none⟩=some v
def Rd(k:IntKind)(w:World)(A:Option Addr)(zs:List Int):Prop:=
 zs=[]∨∃b off,A=some ⟨b,off,none⟩∧b<w.1.size∧Cells k w b off zs
section
variable {k:IntKind}{w w':World}{A:Option Addr}{zs:List Int}{g off:Nat}
def Rd.nil:Rd k w A []:= .inl rfl
def Rd.at_(h:Rd k w A zs)(a:0<zs.length):∃b off,A=some ⟨b,off,none⟩∧b<w.1.size∧Cells k w b off zs:=by
 rcases h with h|h
 ·subst h;simp at a
 ·exact h
def Rd.lt_of(h:Rd k w A zs){b o:Nat}(e:A=some ⟨b,o,none⟩)(c:0<zs.length):b≠w.1.size:=by
 obtain⟨d,i,a,f,_⟩:=h.at_ c;rw[e] at a;injection a with a;injection a;omega
def Rd.mk{b off:Nat}(a:b<w.1.size)(h:Cells k w b off zs):Rd k w (some ⟨b,off,none⟩) zs:= .inr ⟨b,off,rfl,a,h⟩
def Cells.ke(h:Cells k w g off zs)(b:w'.heap[g]? =w.heap[g]?):Cells k w' g off zs:=
 fun i c=>(World.cell?_of_block (w:=w) (w':=w') (a:=⟨g,off+i,none⟩) b).trans (h i c)
def Cells.be(h:Cells k w g off zs)(a:Below B w w')(b:g<B):Cells k w' g off zs:=h.ke (a.block g b)
def Rd.be(h:Rd k w A zs)(a:Below w.1.size w w'):Rd k w' A zs:=by
 rcases h with h|⟨b,off,rfl,c,d⟩
 ·exact .inl h
 ·exact .inr ⟨b,off,rfl,aZ c a.size,d.be a c⟩
def Old(w:World)(A:Option Addr):Prop:=∀a,A=some a->a.block<w.1.size
def Old.mk{b off:Nat}(h:b<w.1.size):Old w (some ⟨b,off,s⟩):=by rintro a e;injection e with e;subst e;exact h
def Old.none:Old w none:=by rintro a e;cases e
def Old.mono(h:Old w A)(b:w.1.size<=w'.1.size):Old w' A:=fun a e=>aZ (h a e) b
def Old.ne(h:Old w A){g:Nat}(b:w.1.size<=g):(Value.slice A n c).ownBlock≠some g:=by
 cases A with
 |none=>simp[Value.ownBlock]
 |some a=>
  have:=h a rfl;simp[Value.ownBlock];omega
def Rd.drew(h:Rd k w A zs):Rd k w.drew A zs:=h
def Rd.drewN(h:Rd k w A zs)(n:Nat):Rd k (w.drewN n) A zs:=h
def AH{g:Nat}(h:(Value.slice A n c).ownBlock≠some g):∀b o,A=some ⟨b,o,none⟩->0<n->b≠g:=by
 rintro b o rfl _ rfl;exact h (by simp[Value.ownBlock])
def Rd.grown(h:Rd k w A zs)(c:w.grownBy w' e)(a:zs=[]∨∀b off,A=some ⟨b,off,none⟩->some b≠e):Rd k w' A zs:=by
 rcases h with h|⟨b,off,rfl,d,f⟩
 ·exact .inl h
 ·rcases a with a|a
  ·exact .inl a
  ·exact .inr ⟨b,off,rfl,aZ d c.size,f.ke (c.block b d (a b off rfl))⟩
def Cells.take(h:Cells k w g off zs)(n:Nat):Cells k w g off (zs.take n):=by
 intro i a;rw[bK] at a;rw[h i (by omega)];simp only[eF,fC,if_pos (show i<n by omega)]
def Cells.drop(h:Cells k w g off zs)(n:Nat):Cells k w g (off+n) (zs.drop n):=by
 intro i a;rw[gG] at a;rw[bxE,h (n+i) (by omega)];simp only[eF,aqM]
def Rd.take(h:Rd k w A zs)(n:Nat):Rd k w A (zs.take n):=by
 rcases h with h|⟨b,off,rfl,c,a⟩
 ·subst h;exact .inl (by simp)
 ·exact .inr ⟨b,off,rfl,c,a.take n⟩
def Cells.append(h:Cells k w g off zs)(b:Cells k w g (off+zs.length) ys):Cells k w g off (zs++ys):=by
 intro i c;rw[bN] at c;by_cases a:i<zs.length
 ·rw[h i a];simp[gA a]
 ·have:=b (i-zs.length) (by omega);rw[show off+zs.length+(i-zs.length)=off+i by omega] at this;rw[this];simp[fK (show zs.length<=i by omega)]
def Cells.set(h:Cells k w g off zs)(hi:i<zs.length)(v:Int):Cells k (w.setCell ⟨g,off+i,none⟩ (.int k v)) g off (zs.set i v):=by
 intro j a;rw[eM] at a;by_cases e:j=i
 ·subst e;rw[World.cell?_setCell_same _ _ _ (h j a)];simp[gP hi]
 ·rw[World.cell?_setCell_other _ _ _ _ (by simp<;>omega),h j a];simp only[eF,lI (show i≠j by omega)]
def Cells.far(h:Cells k w g off zs){a:Addr}(b:a.block≠g∨a.off<off∨off+zs.length<=a.off)(v:Value):Cells k (w.setCell a v) g off zs:=by
 intro j c;rw[World.cell?_setCell_other _ _ _ _ (by intro e;subst e;simp at b;omega),h j c]
def Cells.lt(h:Cells k w g off zs)(a:0<zs.length):g<w.1.size:=block_lt_of_cell (h 0 a)
def Cells.alloc(h:Cells k w g off zs)(a:g<w.1.size)(o:Obj):Cells k (w.alloc o) g off zs:=h.ke (Below.heap_alloc w o g a)
def Soft.lt(h:Soft w g):g<w.1.size:=by
 obtain⟨a,t,h⟩:=h;exact(Array.getElem?_eq_some_iff.1 h).1
def Soft.free(h:Soft w g)(j:Nat):w.frozen? ⟨g,j,none⟩=false:=by
 obtain⟨a,t,h⟩:=h;exact frozen_of_row w g j a t h
def Soft.ke(h:Soft w g)(b:w'.heap[g]? =w.heap[g]?):Soft w' g:=by
 obtain⟨a,t,h⟩:=h;exact⟨a,t,b.trans h⟩
def Soft.be(h:Soft w g)(a:Below B w w')(b:g<B):Soft w' g:=h.ke (a.block g b)
def Soft.alloc(h:Soft w g)(o:Obj):Soft (w.alloc o) g:=h.ke (Below.heap_alloc w o g h.lt)
def Soft.set(h:Soft w g)(a:Addr)(v:Value):Soft (w.setCell a v) g:=by
 obtain⟨b,t,h⟩:=h;unfold Soft;by_cases e:a.block=g
 ·subst e;exact⟨if a.spot.isSome then b else b.setIfInBounds a.off v,t,by simp[World.setCell,byY,h]⟩
 ·exact⟨b,t,(Below.heap_setCell w a v g (fun c=>e c.symm)).trans h⟩
def VC.cells(h:VC w g off (zs.map (Value.int k))):Cells k w g off zs:=by
 intro i a;refine h i _ ?_;simp[aR a]
def Cells.vc(h:Cells k w g off zs):VC w g off (zs.map (Value.int k)):=by
 intro i v hv;rw[iK] at hv;rcases dE i zs.length with a|a
 ·rw[aR a] at hv;have e:=h i a;rw[e];simpa [aR a] using hv
 ·rw[fU a] at hv;simp at hv
def VC.ke(h:VC w g off cs)(b:w'.heap[g]? =w.heap[g]?):VC w' g off cs:=
 fun i v hv=>(World.cell?_of_block (w:=w) (w':=w') (a:=⟨g,off+i,none⟩) b).trans (h i v hv)
def VC.be(h:VC w g off cs)(a:Below B w w')(b:g<B):VC w' g off cs:=h.ke (a.block g b)
def VC.drop(h:VC w g off cs)(n:Nat):VC w g (off+n) (cs.drop n):=by
 intro i v hv;rw[bxE];exact h _ _ (by rw[aqM] at hv;exact hv)
def VC.take(h:VC w g off cs)(n:Nat):VC w g off (cs.take n):=by
 intro i v hv;rw[fC] at hv;split at hv
 ·exact h _ _ hv
 ·cases hv
def nU(w:World)(a:Addr)(v:Value):(w.setCell a v).1.size=w.1.size:=by simp[World.setCell]
end
def Shape(w:World)(g:Nat)(t:TypeId)(n:Nat):Prop:=∃cur,w.heap[g]? =some (.cells cur t (0,0))∧cur.size=n
def Shape.lt(h:Shape w g t n):g<w.1.size:=by
 obtain⟨a,h,_⟩:=h;exact(Array.getElem?_eq_some_iff.1 h).1
def Shape.soft(h:Shape w g t n):Soft w g:=by
 obtain⟨a,h,_⟩:=h;exact⟨a,t,h⟩
def Shape.ke(h:Shape w g t n)(b:w'.heap[g]? =w.heap[g]?):Shape w' g t n:=by
 obtain⟨a,h,hn⟩:=h;exact⟨a,b.trans h,hn⟩
def Shape.alloc(h:Shape w g t n)(o:Obj):Shape (w.alloc o) g t n:=h.ke (Below.heap_alloc w o g h.lt)
def Shape.set(h:Shape w g t n)(a:Addr)(v:Value):Shape (w.setCell a v) g t n:=by
 obtain⟨b,h,hn⟩:=h;by_cases e:a.block=g
 ·subst e;refine⟨if a.spot.isSome then b else b.setIfInBounds a.off v,by simp[World.setCell,byY,h],?_⟩;split
  ·exact hn
  ·simpa using hn
 ·exact⟨b,(Below.heap_setCell w a v g (fun c=>e c.symm)).trans h,hn⟩
structure Only(g off n:Nat)(w w':World):Prop where
 grown:w.grownBy w' (some g)
 rest:∀j,j<off∨off+n<=j->w'.cell? ⟨g,j,none⟩=w.cell? ⟨g,j,none⟩
 soft:Soft w g->Soft w' g
 shape:∀t m,Shape w g t m->Shape w' g t m
def AI{c:World}(h:a.grownBy b d)(k:b.grownBy c d):a.grownBy c d:=
 ⟨k.os.trans h.os,k.tape.trans h.tape,k.output.trans h.output,aH h.size k.size,fun i e f=>(k.block i (aZ e h.size) f).trans (h.block i e f)⟩
def rL(h:Below a.1.size a b)(c:Option Nat):a.grownBy b c:=⟨h.os,h.tape,h.output,h.size,fun i hi _=>h.block i hi⟩
def nV(a:Addr)(v:Value):w.grownBy (w.setCell a v) (some a.block):=
 ⟨rfl,rfl,rfl,by simp[World.setCell],fun i _ b=>Below.heap_setCell w a v i (by rintro rfl;exact b rfl)⟩
def Only.refl(g off n:Nat)(w:World):Only g off n w w:=⟨World.grownBy.refl _ _,fun _ _=>rfl,id,fun _ _ h=>h⟩
def Only.trans{off:Nat}{c:World}(h:Only g off n a b)(k:Only g off n b c):Only g off n a c:=
 ⟨AI h.grown k.grown,fun j d=>(k.rest j d).trans (h.rest j d),fun s=>k.soft (h.soft s),fun t m s=>k.shape t m (h.shape t m s)⟩
def Only.set{off:Nat}(h:Only g off n a b)(hi:i<n)(v:Value):Only g off n a (b.setCell ⟨g,off+i,none⟩ v):=
 h.trans ⟨nV (w:=b) ⟨g,off+i,none⟩ v,fun j c=>World.cell?_setCell_other _ _ _ _ (by simp<;>omega),fun s=>s.set _ _,fun _ _ s=>s.set _ _⟩
def Only.drew{off:Nat}(h:Only g off n a b):Only g off n a b.drew:=⟨⟨h.grown.os,h.grown.tape,h.grown.output,h.grown.size,h.grown.block⟩,h.rest,h.soft,h.shape⟩
def Only.drewN{off:Nat}(h:Only g off n a b)(m:Nat):Only g off n a (b.drewN m):=⟨⟨h.grown.os,h.grown.tape,h.grown.output,h.grown.size,h.grown.block⟩,h.rest,h.soft,h.shape⟩
def Only.be{off:Nat}(h:Only g off n a b)(c:B<=a.1.size)(d:B<=g):Below B a b:=
 ⟨h.grown.os,h.grown.tape,h.grown.output,h.grown.size,fun k f=>h.grown.block k (by omega) (by intro e;injection e;omega)⟩
def Only.cells{off:Nat}(h:Only g off n a b){k:IntKind}{g':Nat}(d:Cells k a g' c zs)(l:g'<a.1.size)
  (m:g'≠g∨c+zs.length<=off∨off+n<=c):Cells k b g' c zs:=by
 by_cases e:g'=g
 ·subst e;intro i j;rw[h.rest _ (by omega)];exact d i j
 ·exact d.ke (h.grown.block g' l (by intro f;injection f;omega))
def Only.rd{off:Nat}(h:Only g off n a b){k:IntKind}(e:Rd k a A zs)
  (j:∀c o',A=some ⟨c,o',none⟩->0<zs.length->c≠g):Rd k b A zs:=by
 rcases e with e|⟨c,o',rfl,f,i⟩
 ·exact .inl e
 ·rcases iB zs.length with d|d
  ·exact .inl (bX d)
  ·exact .inr ⟨c,o',rfl,aZ f h.grown.size,h.cells i f (.inl (j c o' rfl d))⟩
def vX{args:Array Value}
  (h:Calls P f args (w.drewN n) fun e w'=>e= .returned v∧w.drewN n=w'):Calls P f args (w.drewN n) fun e c=>e= .returned v∧∃m,c=w.drewN m:=
 h.mono fun _ _ ⟨a,b⟩=>⟨a,n,b.symm⟩
def FP{args:Array Value}{a:Nat}
  (h:Calls P f args (w.drewN (a+n)) fun e w'=>e= .returned v∧w.drewN (a+n)=w'):Calls P f args (w.drewN (a+n)) fun e d=>e= .returned v∧∃m,d=w.drewN (a+m):=
 h.mono fun _ _ ⟨b,c⟩=>⟨b,n,c.symm⟩
def aC(h:Below w.1.size w a)(k:Below a.1.size a b):Below w.1.size w b:=h.trans (k.mono h.size)
def kI(h:Below B a w)(n:Nat):Below B a (w.drewN n):=⟨h.os,h.tape,h.output,h.size,h.block⟩
section
variable {P:Program}{w:World}{ops:Array Oper}{rest:List Oper}{o:Oper}{a:Act}{Q:Exit->Act->World->Prop}
def OS(A:o.guard=none){l c:Operand}(E:o.op=Op.makeSlice t l c)(e:TypeId)(z:Value)(k b:Nat)
  (m:P.underlying t=some (.slice e))(hi:(P.info? e).map (fun i=>(i.zero,i.size,i.bytes))=some (some z,k,b))(n:Nat){g f:IntKind}
  (D:a.eval l= .int g L)(y:a.eval c= .int f C)(s:L=(n:Int))(p:C=(n:Int))(H:b*n<=281474976710656)(I:n<=9223372036854775807)
  (q:∀w',w.1.size<w'.1.size->Soft w' w.1.size->VC w' w.1.size 0 (madeCells z.cells (n*k)).toList->Below w.1.size w w'->
   wpList P ops Q rest (a.put o.dst (.slice (some ⟨w.1.size,0,none⟩) n n)) w'):wpList P ops Q (o :: rest) a w:=by
 obtain⟨i,B,G,F,x⟩:=info_parts hi;subst F x s p;have u:(i.bytes:Int)*(n:Int)<=281474976710656:=by
  have h:((i.bytes*n:Nat):Int)<=281474976710656:=by omega
  rwa [az8] at h
 have d:=run_make (P:=P) w t e i z m B G g f n n (by omega) (by omega) u (by omega);simp only[j9] at d;refine wpList_plain A fun K r=> ?_;unfold Oper.wp;simp[execOp,E,D,y,d,Result.andThen];refine r _ _ (q _ ?_ ?_ ?_ ?_)
 ·simp
 ·exact⟨_,_,heap_alloc_new w _⟩
 ·intro j v hv;rw[cell_of_row (w.alloc _) w.1.size (0+j) _ _ _ (heap_alloc_new w _),bA];rw[Array.getElem?_toList] at hv;exact hv
 ·exact(aG _ _).alloc aE _
def OT(k:IntKind)(n:Nat):(madeCells (Value.int k 0).cells (n*1)).toList=(List.replicate n (0:Int)).map (Value.int k):=by
 rw[az9,List.map_replicate];exact toList_madeCells_one _ _
def kG(u:o.guard=none){l c:Operand}(y:o.op=Op.makeSlice t l c)(k:IntKind)(e:TypeId)(b:Nat)
  (f:P.underlying t=some (.slice e))(hi:(P.info? e).map (fun i=>(i.zero,i.size,i.bytes))=some (some (.int k 0),1,b))(n:Nat){A z:IntKind}
  (v:a.eval l= .int A L)(s:a.eval c= .int z C)(q:L=(n:Int))(m:C=(n:Int))(r:b*n<=281474976710656)(x:n<=9223372036854775807)
  (p:∀w',w.1.size<w'.1.size->Soft w' w.1.size->Cells k w' w.1.size 0 (List.replicate n 0)->Below w.1.size w w'->
   wpList P ops Q rest (a.put o.dst (.slice (some ⟨w.1.size,0,none⟩) n n)) w'):wpList P ops Q (o :: rest) a w:=
 OS u y e _ 1 b f hi n v s q m r x fun w' g h d j=>p w' g h (by rw[OT] at d;exact d.cells) j
def cV{α:Type}(xs ys:List α):List α:=ys.take xs.length++xs.drop ys.length
def lN{α:Type}(xs ys:List α):(cV xs ys).length=xs.length:=by simp[cV];omega
def OU{α β:Type}(f:α->β)(xs ys:List α):cV (xs.map f) (ys.map f)=(cV xs ys).map f:=by simp[cV,List.map_take,List.map_drop]
def OV{off:Nat}(b:w.heap[g]? =some (.cells cur.toArray t (0,0)))(p:cs.length<=n)(l:off+cs.length<=cur.length):
  Only g off n w (w.setRow g (cur.take off++(cs++cur.drop (off+cs.length))).toArray):=by
 refine⟨⟨rfl,rfl,rfl,by simp[World.setRow],fun i _ f=>setRow_other w g i _ (fun e=>f (by rw[e]))⟩,fun j c=> ?_,fun _=>⟨_,_,setRow_heap w g _ _ t _ b⟩,fun q m h=> ?_⟩
 ·rw[cell_of_row _ g j _ _ _ (setRow_heap w g _ _ t _ b),cell_of_row w g j _ _ _ b];simp only[List.getElem?_toArray];rcases c with c|c
  ·rw[gA (by simp;omega),fC,if_pos c]
  ·rw[fK (by simp;omega),bK,fK (by omega),aqM];congr 1;omega
 ·obtain⟨k,d,hn⟩:=h;rw[b] at d;simp only[Option.some.injEq,Obj.cells.injEq] at d;obtain⟨rfl,rfl, -⟩:=d;refine⟨_,setRow_heap w g _ _ t _ b,?_⟩;simp only[bzA] at hn;simp only[bzA,bN,bK,gG];omega
def OW{K:Act->World->Prop}{d s:Operand}(B:o.op= .call { callee:= .builtin .copy,args:= #[d,s],argTypes:= #[dT,sT] })(e:TypeId)
  (F:P.underlying dT=some (.slice e))(E:(P.info? e).map (·.size)=some 1)
  (z:a.eval d= .slice dp dLen dCap)(D:a.eval s= .slice sp sLen sCap)(g off:Nat)(xs ys:List Value)(H:xs.length=dLen)(N:ys.length=sLen)
  (I:0<dLen->dp=some ⟨g,off,none⟩)(r:VC w g off xs)(O:Soft w g)(R:0<sLen->∃b o',sp=some ⟨b,o',none⟩∧VC w b o' ys)(M:∀v∈ys,v.oneCell'=true)
  (h:∀w',VC w' g off (cV xs ys)->Only g off xs.length w w'->K (a.put o.dst (goInt ((Nat.min sLen dLen:Nat):Int))) w'):o.wp P a w K Q:=by
 subst H N;by_cases p:Nat.min ys.length xs.length=0
 ·have q:=run_copy_none (P:=P) w dT sT o.type e dp sp xs.length dCap ys.length sCap F E p;unfold Oper.wp;simp[execOp,B,resolve,invoke,builtin,z,D,q,Result.andThen]
  have x:=h w (by
   have G:ys=[]∨xs=[]:=by
    rcases iB ys.length with c|c
    ·exact .inl (bX c)
    ·right;rcases iB xs.length with m|m
     ·exact bX m
     ·have:0<Nat.min ys.length xs.length:=Nat.lt_min.2 ⟨c,m⟩;omega
   rcases G with rfl|rfl
   ·simpa [cV] using r
   ·intro i v hv;simp[cV] at hv) (Only.refl _ _ _ _)
  rw[p] at x;exact x
 ·have T:0<ys.length:=by
   rcases iB ys.length with c|c
   ·exact absurd (by rw[c];exact Nat.zero_min _) p
   ·exact c
  have m:0<xs.length:=by
   rcases iB xs.length with c|c
   ·exact absurd (by rw[c];exact Nat.min_zero _) p
   ·exact c
  obtain⟨b,o',rfl,U⟩:=R T;obtain rfl:=I m;obtain⟨cur,t,f⟩:=O;have W:off+xs.length<=cur.size:=by
   have:=r (xs.length-1) (xs[xs.length-1]'(by omega)) (aR (by omega));rw[cell_of_row w g _ _ _ _ f] at this;have:=(Array.getElem?_eq_some_iff.1 this).1;omega
  have y:(ys.take xs.length).length=Nat.min ys.length xs.length:=by rw[bK];exact Nat.min_comm _ _
  have q:=run_copy_row (P:=P) w dT sT o.type e g off xs.length dCap ⟨b,o',none⟩ ys.length sCap cur t (ys.take xs.length) F E f y
   (fun j v hv=>by
    have S:ys[j]? =some v:=by
     rw[fC] at hv;split at hv
     ·exact hv
     ·cases hv
    have:=U j v S;unfold Addr.add;split
    ·rename_i k;subst k;simpa using this
    ·exact this)
   (by rw[bK];omega) (fun v hv=>M v (lH hv))
  unfold Oper.wp;simp only[execOp,B,resolve,invoke,builtin,Sem.run_bind,Sem.run_pure,Result.andThen_ok,bxC,fM,aqJ,z,D,q];rw[show(goInt ((ys.take xs.length).length:Int))=goInt ((Nat.min ys.length xs.length:Nat):Int) by rw[y]];refine h _ ?_ ?_
  ·have L:=setRow_heap w g cur (cur.toList.take off++ys.take xs.length++cur.toList.drop (off+(ys.take xs.length).length)).toArray t (0,0) f;intro j v hv;rw[cell_of_row _ g (off+j) _ _ _ L];simp only[List.getElem?_toArray];unfold cV at hv;have C:(cur.toList.take off).length=off:=by rw[bK,Array.length_toList];omega
   rw[eK,fK (by rw[C];omega),C,bzC];by_cases k:j<(ys.take xs.length).length
   ·rw[gA k] at hv⊢;exact hv
   ·rw[fK (by omega)] at hv⊢;rw[aqM] at hv⊢;have A:(ys.take xs.length).length=min xs.length ys.length:=bK;rcases dE xs.length ys.length with X|J
    ·rw[A,y8 (by omega)] at hv k;rw[fU (by omega)] at hv;cases hv
    ·rw[A,Nat.min_eq_right J] at hv k⊢;have u:ys.length+(j-ys.length)=j:=by omega
     rw[u] at hv;have:=r j v hv;rw[cell_of_row w g _ _ _ _ f] at this;rw[Array.getElem?_toList,<-this];congr 1;omega
  ·have:=OV (w:=w) (cur:=cur.toList) (cs:=ys.take xs.length) (t:=t) (g:=g) (off:=off) (n:=xs.length) (by simpa using f) (by rw[bK];omega) (by have u:=bK (i:=xs.length) (l:=ys);have V:cur.toList.length=cur.size:=Array.length_toList;omega);rw[eK];exact this
def fq9(m:o.guard=none){d s:Operand}(n:o.op= .call { callee:= .builtin .copy,args:= #[d,s],argTypes:= #[dT,sT] })(e:TypeId)
  (y:P.underlying dT=some (.slice e))(x:(P.info? e).map (·.size)=some 1)
  (j:a.eval d= .slice dp dLen dCap)(q:a.eval s= .slice sp sLen sCap)(g off:Nat)(xs ys:List Value)(k:xs.length=dLen)(r:ys.length=sLen)
  (l:0<dLen->dp=some ⟨g,off,none⟩)(z:VC w g off xs)(t:Soft w g)(u:0<sLen->∃b o',sp=some ⟨b,o',none⟩∧VC w b o' ys)(p:∀v∈ys,v.oneCell'=true)
  (h:∀w',VC w' g off (cV xs ys)->Only g off xs.length w w'->wpList P ops Q rest (a.put o.dst (goInt ((Nat.min sLen dLen:Nat):Int))) w'):wpList P ops Q (o :: rest) a w:=
 wpList_plain m fun _ i=>OW n e y x j q g off xs ys k r l z t u p fun w' c f=>i _ _ (h w' c f)
def FN{K:Act->World->Prop}{d s:Operand}(n:o.op= .call { callee:= .builtin .copy,args:= #[d,s],argTypes:= #[dT,sT] })(k:IntKind)(e:TypeId)
  (u:P.underlying dT=some (.slice e))(t:(P.info? e).map (·.size)=some 1)
  (j:a.eval d= .slice dp dLen dCap)(p:a.eval s= .slice sp sLen sCap)(g off:Nat)(xs ys:List Int)(l:xs.length=dLen)(q:ys.length=sLen)
  (m:0<dLen->dp=some ⟨g,off,none⟩)(v:Cells k w g off xs)(r:Soft w g)(x:Rd k w sp ys)
  (h:∀w',Cells k w' g off (cV xs ys)->Only g off xs.length w w'->K (a.put o.dst (goInt ((Nat.min sLen dLen:Nat):Int))) w'):o.wp P a w K Q:=by
 refine OW n e u t j p g off (xs.map (Value.int k)) (ys.map (Value.int k)) (by simpa using l) (by simpa using q) m v.vc r ?_ (ints_oneCell k ys) ?_
 ·intro z;obtain⟨b,y,rfl,_,i⟩:=x.at_ (by omega);exact⟨b,y,rfl,i.vc⟩
 ·intro w' c f;rw[OU] at c;rw[cH] at f;exact h w' c.cells f
def mK(m:o.guard=none){d s:Operand}(n:o.op= .call { callee:= .builtin .copy,args:= #[d,s],argTypes:= #[dT,sT] })(k:IntKind)(e:TypeId)
  (u:P.underlying dT=some (.slice e))(t:(P.info? e).map (·.size)=some 1)
  (i:a.eval d= .slice dp dLen dCap)(p:a.eval s= .slice sp sLen sCap)(g off:Nat)(xs ys:List Int)(j:xs.length=dLen)(q:ys.length=sLen)
  (l:0<dLen->dp=some ⟨g,off,none⟩)(v:Cells k w g off xs)(r:Soft w g)(x:Rd k w sp ys)
  (h:∀w',Cells k w' g off (cV xs ys)->Only g off xs.length w w'->wpList P ops Q rest (a.put o.dst (goInt ((Nat.min sLen dLen:Nat):Int))) w'):wpList P ops Q (o :: rest) a w:=
 wpList_plain m fun _ f=>FN n k e u t i p g off xs ys j q l v r x fun w' b c=>f _ _ (h w' b c)
def OX{K:Act->World->Prop}{E:Prop}(i:o.guard=none){d s:Operand}(j:o.op= .call { callee:= .builtin .copy,args:= #[d,s],argTypes:= #[dT,sT] })(k:IntKind)(e:TypeId)
  (q:P.underlying dT=some (.slice e))(p:(P.info? e).map (·.size)=some 1)
  (b:a.eval d= .slice dp dLen dCap)(l:a.eval s= .slice sp sLen sCap)(g off:Nat)(xs ys:List Int)(c:xs.length=dLen)(m:ys.length=sLen)
  (f:0<dLen->dp=some ⟨g,off,none⟩)(t:Cells k w g off xs)(n:Soft w g)(u:Rd k w sp ys)
  (h:∀w',Cells k w' g off (cV xs ys)->Only g off xs.length w w'->K (a.put o.dst (goInt ((Nat.min sLen dLen:Nat):Int))) w'):if Region.wanted o (yielded ops a.tmps)=true then Oper.wp P o a w K Q else E:=by
 have r:Region.wanted o (yielded ops a.tmps)=true:=by simp[Region.wanted,i]
 rw[if_pos r];exact FN j k e q p b l g off xs ys c m f t n u h
def OY(d:Nat)(t k e:TypeId)(i:TypeInfo)(j:Nat)(b:P.underlying t=some (.slice e))(hi:P.info? e=some i)
  (v:Value)(n:Nat)(xs:List Value)(h:w.ownsRow d e j v n xs)(c:Nat):(Builtin.append_ #[t,t] k #[v,.slice none 0 c]).run P w= .ok v w:=by
 rcases h.2 with ⟨rfl,rfl⟩|⟨g,l,m,rfl,_,_,f,_⟩
 ·simp[Builtin.append_,run_underlying b,sizeOf,typeInfo,hi,Builtin.lenOf,Builtin.firstCells]
 ·simp[Builtin.append_,run_underlying b,sizeOf,typeInfo,hi,Builtin.lenOf,Builtin.firstCells,f,storeCells]
def Src(w:World)(sp:Option Addr)(cs:List Value):Prop:=cs=[]∨∃b off,sp=some ⟨b,off,none⟩∧VC w b off cs
def OZ{b off:Nat}(h:VC w b off cs):∀j u,cs[j]? =some u->w.cell? ((⟨b,off,none⟩:Addr).add j)=some u:=by
 intro j u d;have:=h j u d;unfold Addr.add;split
 ·rename_i c;subst c;simpa using this
 ·exact this
def gM(S:o.guard=none){s x:Operand}(U:o.op= .call { callee:= .builtin .append,args:= #[s,x],argTypes:= #[t,t] })
  (e:TypeId)(z:Value)(f p:Nat)(D:P.underlying t=some (.slice e))(hi:(P.info? e).map (fun i=>(i.zero,i.size,i.bytes))=some (some z,f,p))(L:z.cells.size=f)(C:0<f)
  (g:Nat)(v:Value)(n:Nat)(xs:List Value)(W:a.eval s=v)(q:w.ownsRow g e f v n xs)
  (ys:List Value)(X:a.eval x= .slice sp m c)(B:ys.length=m*f)(Y:Src w sp ys)(V:∀u∈ys,u.oneCell'=true)
  (E:n+m<=9223372036854775807)(H:(n+m)*p<=140737488355328)(F:g<=w.1.size)
  (h:∀d w',w'.ownsRow g e f d (n+m) (xs++ys)->w.grownBy w' v.ownBlock->(d.ownBlock=v.ownBlock∨d.ownBlock=some w.1.size)->wpList P ops Q rest (a.put o.dst d) w'):
  wpList P ops Q (o :: rest) a w:=by
 obtain⟨i,A,J,I,G⟩:=info_parts hi
 have Z:∃d w',(Builtin.append_ #[t,t] o.type #[v,.slice sp m c]).run P w= .ok d w'∧w'.ownsRow g e f d (n+m) (xs++ys)∧w.grownBy w' v.ownBlock∧
   (d.ownBlock=v.ownBlock∨d.ownBlock=some w.1.size):=by
  rcases Y with rfl|⟨b,ab,rfl,R⟩
  ·have T:m=0:=by
    rcases iB m with r|r
    ·exact r
    ·have:=aqZ r C;simp at B;omega
   subst T;cases sp with
   |none=>exact⟨v,w,OY g t o.type e i f D A v n xs q c,by simpa using q,World.grownBy.refl w _,.inl rfl⟩
   |some M=>
    obtain⟨d,w',l,j,k,_,y⟩:=run_append_own_at (P:=P) w g t o.type e i z f p D A J I G L C v n xs q M 0 c [] B (by simp) (by simp) E H F;exact⟨d,w',l,j,k,y⟩
  ·obtain⟨d,w',l,j,k,_,y⟩:=run_append_own_at (P:=P) w g t o.type e i z f p D A J I G L C v n xs q ⟨b,ab,none⟩ m c ys B (OZ R) V E H F;exact⟨d,w',l,j,k,y⟩
 obtain⟨d,w',l,j,k,N⟩:=Z;refine wpList_plain S fun K O=> ?_;unfold Oper.wp execOp;simp only[U,resolve,invoke,builtin,Sem.run_bind,Sem.run_pure,Result.andThen_ok,bxC,fM,aqJ,W,X,l];exact O _ _ (h d w' j k N)
def FO(k:IntKind)(w:World)(b:Nat)(v:Value)(zs:List Int):Prop:=
 ∃A c,v= .slice A zs.length c∧zs.length<=c∧(zs=[]∨∃g,A=some ⟨g,0,none⟩∧b<=g∧Soft w g∧Cells k w g 0 zs)
def fqA{k:IntKind}{e:TypeId}(h:w.ownsRow c e 1 v zs.length (zs.map (Value.int k))):FO k w c v zs:=by
 rcases h.2 with ⟨rfl,l⟩|⟨g,j,d,rfl,m,f,hn,_,p,n⟩
 ·have:zs=[]:=bX l;subst this;exact⟨none,0,rfl,aE,.inl rfl⟩
 ·refine⟨_,j,rfl,hn,.inr ⟨g,rfl,m,⟨d,e,f⟩,?_⟩⟩;refine VC.cells (fun i u b=> ?_);rw[cell_of_row w g (0+i) d e (0,0) f,bA,<-Array.getElem?_toList];rw[<-n,fC] at b;split at b
  ·exact b
  ·cases b
end
def aA:Int:=18446744073709551616
def g8(x:Int):Int:=x%18446744073709551616
def gY(x:Int):Int:=x/18446744073709551616
def jC(x y:Int):Int:=if x<y then 1 else 0
def AO(x:Int):g8 x+aA*gY x=x:=by unfold g8 gY aA;omega
def G5(x:Int):0<=g8 x∧g8 x<aA:=by unfold g8 aA;omega
def sS{x:Int}(a:0<=x){m:Int}(h:x<aA*m):0<=gY x∧gY x<m:=by
 unfold gY;unfold aA at h;have b:x/18446744073709551616<m:=byH (by decide) (by rw[fD];exact h);omega
def FY(x y:Int):0<=jC x y∧jC x y<=1:=by unfold jC;split<;>decide
def AQ{x:Int}(a:0<=x)(b:x<aA)(c:0<=y)(d:y<=aA):g8 (x-y)=x-y+aA*jC x y:=by
 unfold g8 jC;unfold aA at *;split<;>omega
def eqA(x y c:Int)(b:0<=x)(f:0<=y)(a:0<=c)(h:c<=1)(d:x<aA)(g:y<aA)(w:World):(callFunc 154 #[.int .u64 x,.int .u64 y,.int .u64 c]).run prog w=
  .ok (.value (.tuple #[.int .u64 (g8 (x+y+c)),.int .u64 (gY (x+y+c))])) w:=by
 unfold g8 gY;unfold aA at d g;obtain⟨x,rfl⟩:=j7 b;obtain⟨y,rfl⟩:=j7 f;obtain⟨c,rfl⟩:=j7 a;rw[run_callFunc_extern func154 (by kernel_rfl) (by kernel_rfl) (by kernel_rfl) (e:=add64Entry) (by kernel_rfl),run_add64 x y c (by omega) (by omega) (by omega) (by omega)];simp only[Result.andThen]
def PL(x y:Int)(a:0<=x)(c:0<=y)(b:x<aA)(d:y<aA)(w:World):(callFunc 154 #[.int .u64 x,.int .u64 y,.int .u64 0]).run prog w=
  .ok (.value (.tuple #[.int .u64 (g8 (x+y)),.int .u64 (gY (x+y))])) w:=by
 simpa using eqA x y 0 a c (aq5 0) (by decide) b d w
def PM(x c:Int)(d:0<=x)(b:0<=c)(a:c<=1)(e:x<aA)(w:World):(callFunc 154 #[.int .u64 x,.int .u64 0,.int .u64 c]).run prog w=
  .ok (.value (.tuple #[.int .u64 (g8 (x+c)),.int .u64 (gY (x+c))])) w:=by
 simpa using eqA x 0 c d (aq5 0) b a e (by unfold aA;decide) w
def eqB(x y b:Int)(f:0<=x)(h:0<=y)(d:0<=b)(j:b<=1)(g:x<aA)(i:y<aA)(w:World):(callFunc 181 #[.int .u64 x,.int .u64 y,.int .u64 b]).run prog w=
  .ok (.value (.tuple #[.int .u64 (g8 (x-y-b)),.int .u64 (jC x (y+b))])) w:=by
 unfold g8 jC;unfold aA at g i;obtain⟨x,rfl⟩:=j7 f;obtain⟨y,rfl⟩:=j7 h;obtain⟨b,rfl⟩:=j7 d;have a:(((x+18446744073709551616-y-b)%18446744073709551616:Nat):Int)=((x:Int)-y-b)%18446744073709551616:=by omega
 have c:((if x<y+b then 1 else 0:Nat):Int)=if (x:Int)<y+b then 1 else 0:=by split<;>split<;>omega
 rw[<-a,<-c];rw[run_callFunc_extern func181 (by kernel_rfl) (by kernel_rfl) (by kernel_rfl) (e:=sub64Entry) (by kernel_rfl),run_sub64 x y b (by omega)];rfl
def PN(x y:Int)(a:0<=x)(c:0<=y)(b:x<aA)(d:y<aA)(w:World):(callFunc 181 #[.int .u64 x,.int .u64 y,.int .u64 0]).run prog w=
  .ok (.value (.tuple #[.int .u64 (g8 (x-y)),.int .u64 (jC x y)])) w:=by
 simpa using eqB x y 0 a c (aq5 0) (by decide) b d w
def PO(x c:Int)(d:0<=x)(b:0<=c)(a:c<=1)(e:x<aA)(w:World):(callFunc 181 #[.int .u64 x,.int .u64 0,.int .u64 c]).run prog w=
  .ok (.value (.tuple #[.int .u64 (g8 (x-c)),.int .u64 (jC x c)])) w:=by
 simpa using eqB x 0 c d (aq5 0) b a e (by unfold aA;decide) w
def PK(A:Option Addr)(zs:List Int)(c:Nat)(w:World)(k:Rd .u64 w A zs)(p:zs.length<=c)(r:zs.length*8<=281474976710656):
  Calls prog 114 #[.slice A zs.length c] w fun e w'=>e= .returned (.slice A (trimL zs).length c)∧w=w':=by
 go_enter func114,ntmps114;go_wp2;go_loop [3] (fun i=>∃n:Nat,n<=zs.length∧i= .int .i64 n∧∀j,n<=j->zs.getD j 0=0) (fun i=>(intOf i).toNat)
 case atStart=>exact⟨zs.length,aE,rfl,fun j g=>by simp[g]⟩
 case round=>
  obtain⟨n,hn,rfl,h⟩:=hrel;have a:=aB h;clear h;by_cases m:0<n
  ·obtain⟨b,s,rfl,o,f⟩:=k.at_ (by omega);have q:=f (n-1) (by omega);have l:=aB f;clear f;go_wp2
   ·have d:(zs[n-1]?.getD 0==0)=true:=by assumption
    go_round
    case rel=>
     refine⟨n-1,by omega,by go_num,fun j g=> ?_⟩;by_cases e:j=n-1
     ·subst e;simpa using d
     ·exact a.out j (by omega)
    case measure=>simp[intOf];omega
   ·have d:(zs[n-1]?.getD 0==0)=false:=by assumption
    go_ret;refine⟨?_,rfl⟩;have e:trimL zs=zs.take n:=FQ hn (.inr (by simpa using d)) a.out;rw[e,bK,y8 hn];rfl
  ·obtain rfl:n=0:=by omega
   go_wp2;go_ret;refine⟨?_,rfl⟩;have e:trimL zs=zs.take 0:=FQ (dC _) (.inl rfl) a.out;rw[e];rfl
def gC(A:Option Addr)(zs:List Int)(n c:Nat)(w:World)(hn:zs.length=n)(b:Rd .u64 w A zs)(a:n<=c)(d:n*8<=281474976710656):
  Calls prog 114 #[.slice A n c] w fun e w'=>e= .returned (.slice A (trimL zs).length c)∧w=w':=by
 subst hn;exact PK A zs c w b a (by omega)
def aQ:(0:Int)<aA:=by decide
def AM:(1:Int)<aA:=by decide
def n8(zs:List Int)(i j:Nat)(v:Int)(h:i≠j):(zs.set i v).getD j 0=zs.getD j 0:=by
 simp only[eF,lI h]
def eqS{c:Int}(a:k<zs.length)(h:aF aA zs+c*aA^k=T):
  aF aA (zs.set k (g8 (zs.getD k 0+y+c)))+gY (zs.getD k 0+y+c)*aA^(k+1)=T+aA^k*y:=by
 have e:=AO (zs.getD k 0+y+c);rw[nY _ _ _ _ a,<-h,gR];generalize g8 (zs.getD k 0+y+c)=l at *;generalize gY (zs.getD k 0+y+c)=m at *;generalize zs.getD k 0=z at *;generalize aA^k=p at *;generalize aF aA zs=s at *;generalize aA=b at *;have d:p*(l+b*m)=p*(z+y+c):=by rw[e]
 grind
def FW{c:Int}(b:k<zs.length)(d:InR aA zs)(i:0<=y)(j:y<aA)(f:0<=c)(g:c<=1)(h:aF aA zs-c*aA^k=T):
  aF aA (zs.set k (g8 (zs.getD k 0-y-c)))-jC (zs.getD k 0) (y+c)*aA^(k+1)=T-aA^k*y:=by
 have a:=d.getD aQ k;have e:=AQ a.1 a.2 (show 0<=y+c by omega) (show y+c<=aA by omega);rw[show zs.getD k 0-y-c=zs.getD k 0-(y+c) by omega,nY _ _ _ _ b,<-h,gR,e];generalize jC (zs.getD k 0) (y+c)=m;grind
def PG{c:Int}(b:InR aA zs)(f:0<=c)(g:c<=1)(h:aF aA zs+c*aA^zs.length=T)(e:T<aA^zs.length):aF aA zs=T:=by
 have d:=y9 aQ b;have a:c=0∨c=1:=by omega
 rcases a with rfl|rfl
 ·simpa using h
 ·omega
def PH{c:Int}(b:InR aA zs)(f:0<=c)(g:c<=1)(h:aF aA zs-c*aA^zs.length=T)(e:0<=T):aF aA zs=T:=by
 have d:=iO aQ b;have a:c=0∨c=1:=by omega
 rcases a with rfl|rfl
 ·simpa using h
 ·omega
def PI(g off:Nat)(xs:List Int)(J:Nat)(A:Option Addr)(ys:List Int)(W:Nat)(w:World)
  (hx:Cells .u64 w g off xs)(M:Soft w g)(ae:xs.length<=J)(hb:xs.length*8<=281474976710656)(O:Rd .u64 w A ys)
  (s:∀b o,A=some ⟨b,o,none⟩->0<ys.length->b≠g)(af:ys.length<=xs.length)(Y:InR aA xs)(Z:InR aA ys)(H:aF aA xs+aF aA ys<aA^xs.length):
  Calls prog 118 #[.slice (some ⟨g,off,none⟩) xs.length J,.slice A ys.length W] w fun e w'=>e= .returned (.tuple #[])∧
   ∃zs,zs.length=xs.length∧InR aA zs∧aF aA zs=aF aA xs+aF aA ys∧Cells .u64 w' g off zs∧Only g off xs.length w w':=by
 go_enter func118,ntmps118;go_wp2
 go_loopw [4,10] (fun t i wr=>∃(k:Nat) (zs:List Int) (c:Int),k<=ys.length∧i= .int .i64 k∧t= .int .u64 c∧0<=c∧c<=1∧zs.length=xs.length∧InR aA zs∧
   Hid (aF aA zs+c*aA^k=aF aA xs+aF aA (ys.take k))∧Cells .u64 wr g off zs∧Only g off xs.length w wr) (fun _ i _=>ys.length-(intOf i).toNat)
 case atStart=>exact⟨0,xs,0,dC _,rfl,rfl,by decide,by decide,rfl,Y,by simp[Hid],hx,Only.refl _ _ _ _⟩
 case round=>
  obtain⟨k,zs,c,hk,rfl,rfl,l,n,h,f,j,d,a⟩:=hrel;by_cases G:k<ys.length
  ·obtain⟨b,o,rfl,ad,P⟩:=(a.rd O s).at_ (by omega);have h1:=P k G;have X:=d k (by omega);have hf:=(a.soft M).free (off+k);have C:=f.getD aQ k;have T:=Z.getD aQ k;have u:=aB d;have HN:=aB s;have z:=aB a;have q:=eqS (y:=ys.getD k 0) (show k<zs.length by omega) j.out;have N:=jV aA ys k G;generalize r:zs.getD k 0=x at *;generalize Q:ys.getD k 0=y at *;have S:=aB r;have ac:=aB Q;have B:=aB q;have R:=aB N;obtain⟨D,E⟩:=C;obtain⟨U,V⟩:=T;clear d P s a r Q q N;go_wp2_with (simp only[eqA x y c D U l n E V]);go_roundw
   case rel=>
    have p:=G5 (x+y+c);have F:=sS (x:=x+y+c) (m:=2) (by omega) (by omega);refine⟨k+1,zs.set k (g8 (x+y+c)),gY (x+y+c),by omega,by go_num,rfl,F.1,by omega,by simpa using h,f.set p.1 p.2 k,?_,u.out.set (by omega) _,z.out.set (by omega) _⟩;have:=B.out;have:=R.out;unfold Hid;omega
   case measure=>simp[intOf];omega
  ·obtain rfl:k=ys.length:=by omega
   rw[aq9] at j;clear O s;go_wp2
   go_loopw [4,7] (fun t i wr=>∃(k:Nat) (zs:List Int) (c:Int),k<=xs.length∧i= .int .i64 k∧t= .int .u64 c∧0<=c∧c<=1∧zs.length=xs.length∧InR aA zs∧
     Hid (aF aA zs+c*aA^k=aF aA xs+aF aA ys)∧Cells .u64 wr g off zs∧Only g off xs.length w wr) (fun _ i _=>xs.length-(intOf i).toNat)
   case atStart=>exact⟨ys.length,zs,c,by omega,rfl,rfl,l,n,h,f,j,d,a⟩
   case round=>
    clear l n h f j d a;obtain⟨k,zs,c,hk,rfl,rfl,l,n,h,f,j,d,a⟩:=hrel;have L:c=0∨k=xs.length->aF aA zs=aF aA xs+aF aA ys:=by
     rintro (rfl|rfl)
     ·simpa using j.out
     ·exact PG f l n (by rw[h];exact j.out) (by rw[h];exact H)
    have I:=aB L;have ab:=aB H;clear L H;by_cases K:c=0
    ·have v:=aB (I.out (.inl K));subst K;go_wp2;go_end0;exact⟨rfl,zs,h,f,v.out,d,a⟩
    ·obtain rfl:c=1:=by omega
     by_cases G:k<xs.length
     ·have X:=d k (by omega);have hf:=(a.soft M).free (off+k);have C:=f.getD aQ k;have u:=aB d;have z:=aB a;have q:=eqS (y:=0) (show k<zs.length by omega) j.out;generalize r:zs.getD k 0=x at *;have S:=aB r;have B:=aB q;obtain⟨D,E⟩:=C;clear d a r q;go_wp2_with (simp only[PM x 1 D (by decide) (by decide) E]);go_roundw
      case rel=>
       have p:=G5 (x+1);have F:=sS (x:=x+1) (m:=2) (by omega) (by have:=AM;omega);refine⟨k+1,zs.set k (g8 (x+1)),gY (x+1),by omega,by go_num,rfl,F.1,by omega,by simpa using h,f.set p.1 p.2 k,?_,u.out.set (by omega) _,z.out.set (by omega) _⟩;have:=B.out;unfold Hid;simpa using this
      case measure=>simp[intOf];omega
     ·obtain rfl:k=xs.length:=by omega
      have v:=aB (I.out (.inr rfl));go_wp2;go_end0;exact⟨rfl,zs,h,f,v.out,d,a⟩
def PJ(g off:Nat)(xs:List Int)(I:Nat)(A:Option Addr)(ys:List Int)(V:Nat)(w:World)
  (hx:Cells .u64 w g off xs)(L:Soft w g)(ae:xs.length<=I)(hb:xs.length*8<=281474976710656)(O:Rd .u64 w A ys)
  (r:∀b o,A=some ⟨b,o,none⟩->0<ys.length->b≠g)(af:ys.length<=xs.length)(X:InR aA xs)(Y:InR aA ys)(M:aF aA ys<=aF aA xs):
  Calls prog 153 #[.slice (some ⟨g,off,none⟩) xs.length I,.slice A ys.length V] w fun e w'=>e= .returned (.tuple #[])∧
   ∃zs,zs.length=xs.length∧InR aA zs∧aF aA zs=aF aA xs-aF aA ys∧Cells .u64 w' g off zs∧Only g off xs.length w w':=by
 go_enter func153,ntmps153;go_wp2
 go_loopw [4,10] (fun t i wr=>∃(k:Nat) (zs:List Int) (c:Int),k<=ys.length∧i= .int .i64 k∧t= .int .u64 c∧0<=c∧c<=1∧zs.length=xs.length∧InR aA zs∧
   Hid (aF aA zs-c*aA^k=aF aA xs-aF aA (ys.take k))∧Cells .u64 wr g off zs∧Only g off xs.length w wr) (fun _ i _=>ys.length-(intOf i).toNat)
 case atStart=>exact⟨0,xs,0,dC _,rfl,rfl,by decide,by decide,rfl,X,by simp[Hid],hx,Only.refl _ _ _ _⟩
 case round=>
  obtain⟨k,zs,c,hk,rfl,rfl,l,m,j,d,h,f,a⟩:=hrel;by_cases G:k<ys.length
  ·obtain⟨b,o,rfl,ad,P⟩:=(a.rd O r).at_ (by omega);have h1:=P k G;have W:=f k (by omega);have Z:=(a.soft L).free (off+k);have B:=d.getD aQ k;have E:=Y.getD aQ k;have s:=aB f;have HN:=aB r;have v:=aB a;have p:=FW (y:=ys.getD k 0) (show k<zs.length by omega) d E.1 E.2 l m h.out;have N:=jV aA ys k G;generalize q:zs.getD k 0=x at *;generalize Q:ys.getD k 0=y at *;have S:=aB q;have ac:=aB Q;have z:=aB p;have R:=aB N;obtain⟨C,D⟩:=B;obtain⟨T,U⟩:=E;clear f P r a q Q p N;go_wp2_with (simp only[eqB x y c C T l m D U]);go_roundw
   case rel=>
    have n:=G5 (x-y-c);have F:=FY x (y+c);refine⟨k+1,zs.set k (g8 (x-y-c)),jC x (y+c),by omega,by go_num,rfl,F.1,by omega,by simpa using j,d.set n.1 n.2 k,?_,s.out.set (by omega) _,v.out.set (by omega) _⟩;have:=z.out;have:=R.out;unfold Hid;omega
   case measure=>simp[intOf];omega
  ·obtain rfl:k=ys.length:=by omega
   rw[aq9] at h;clear O r;go_wp2
   go_loopw [4,7] (fun t i wr=>∃(k:Nat) (zs:List Int) (c:Int),k<=xs.length∧i= .int .i64 k∧t= .int .u64 c∧0<=c∧c<=1∧zs.length=xs.length∧InR aA zs∧
     Hid (aF aA zs-c*aA^k=aF aA xs-aF aA ys)∧Cells .u64 wr g off zs∧Only g off xs.length w wr) (fun _ i _=>xs.length-(intOf i).toNat)
   case atStart=>exact⟨ys.length,zs,c,by omega,rfl,rfl,l,m,j,d,h,f,a⟩
   case round=>
    clear l m j d h f a;obtain⟨k,zs,c,hk,rfl,rfl,l,m,j,d,h,f,a⟩:=hrel;have K:c=0∨k=xs.length->aF aA zs=aF aA xs-aF aA ys:=by
     rintro (rfl|rfl)
     ·simpa using h.out
     ·exact PH d l m (by rw[j];exact h.out) (by omega)
    have H:=aB K;have ab:=aB M;clear K M;by_cases J:c=0
    ·have u:=aB (H.out (.inl J));subst J;go_wp2;go_end0;exact⟨rfl,zs,j,d,u.out,f,a⟩
    ·obtain rfl:c=1:=by omega
     by_cases G:k<xs.length
     ·have W:=f k (by omega);have Z:=(a.soft L).free (off+k);have B:=d.getD aQ k;have s:=aB f;have v:=aB a;have p:=FW (y:=0) (show k<zs.length by omega) d (by decide) (by decide) (by decide) (by decide) h.out;generalize q:zs.getD k 0=x at *;have S:=aB q;have z:=aB p;obtain⟨C,D⟩:=B;clear f a q p;go_wp2_with (simp only[PO x 1 C (by decide) (by decide) D]);go_roundw
      case rel=>
       have n:=G5 (x-1);have F:=FY x 1;refine⟨k+1,zs.set k (g8 (x-1)),jC x 1,by omega,by go_num,rfl,F.1,by omega,by simpa using j,d.set n.1 n.2 k,?_,s.out.set (by omega) _,v.out.set (by omega) _⟩;have:=z.out;unfold Hid;simpa using this
      case measure=>simp[intOf];omega
     ·obtain rfl:k=xs.length:=by omega
      have u:=aB (H.out (.inr rfl));go_wp2;go_end0;exact⟨rfl,zs,j,d,u.out,f,a⟩
def eq9(g off n:Nat)(xs:List Int)(a:Nat)(A:Option Addr)(m:Nat)(ys:List Int)(c:Nat)(w:World)(hn:xs.length=n)(k:ys.length=m)
  (r:Cells .u64 w g off xs)(p:Soft w g)(i:n<=a)(h:n*8<=281474976710656)(s:Rd .u64 w A ys)
  (l:∀b o,A=some ⟨b,o,none⟩->0<m->b≠g)(j:m<=n)(d:InR aA xs)(f:InR aA ys)(q:aF aA xs+aF aA ys<aA^n):
  Calls prog 118 #[.slice (some ⟨g,off,none⟩) n a,.slice A m c] w fun e w'=>e= .returned (.tuple #[])∧
   ∃zs,zs.length=n∧InR aA zs∧aF aA zs=aF aA xs+aF aA ys∧Cells .u64 w' g off zs∧Only g off n w w':=by
 subst hn k;exact PI g off xs a A ys c w r p i h s l j d f q
def FX(g off n:Nat)(xs:List Int)(a:Nat)(A:Option Addr)(m:Nat)(ys:List Int)(c:Nat)(w:World)(hn:xs.length=n)(k:ys.length=m)
  (r:Cells .u64 w g off xs)(p:Soft w g)(i:n<=a)(h:n*8<=281474976710656)(s:Rd .u64 w A ys)
  (l:∀b o,A=some ⟨b,o,none⟩->0<m->b≠g)(j:m<=n)(d:InR aA xs)(f:InR aA ys)(q:aF aA ys<=aF aA xs):
  Calls prog 153 #[.slice (some ⟨g,off,none⟩) n a,.slice A m c] w fun e w'=>e= .returned (.tuple #[])∧
   ∃zs,zs.length=n∧InR aA zs∧aF aA zs=aF aA xs-aF aA ys∧Cells .u64 w' g off zs∧Only g off n w w':=by
 subst hn k;exact PJ g off xs a A ys c w r p i h s l j d f q
def BN:Nat:=18446744073709551616
def kU:(BN:Int)=aA:=rfl
def N8:2<=BN:=by decide
def dg(n:Nat):List Int:=jW BN n
def nl(n:Nat):Nat:=(dg n).length
def aK(n:Nat):(dg n).length=nl n:=rfl
def cU(n:Nat):aF aA (dg n)=n:=by rw[<-kU];exact AK BN n N8
def vV(n:Nat):Canon aA (dg n):=by rw[<-kU];exact FU BN n N8
def cI(n:Nat):InR aA (dg n):=(vV n).1
def FM(h:Canon aA zs):dg (aF aA zs).toNat=zs:=by
 unfold dg;rw[<-kU] at h⊢;exact PF N8 h
def sR:dg 0=[]:=FT BN
def dO:nl 0=0:=by unfold nl;rw[sR];rfl
def oE(h:InR aA zs)(hv:aF aA zs=n):trimL zs=dg n:=by
 rw[<-FM (PA h),P3,hv,j9]
def vW(h:Canon aA zs)(hv:aF aA zs=n):zs=dg n:=by
 rw[<-FM h,hv,j9]
def iX(m:Nat):((BN^m:Nat):Int)=aA^m:=by rw[bx9,kU]
def cyD(n:Nat):n<BN^nl n:=by
 have h:=iO aQ (cI n);rw[cU,aK,<-iX] at h;omega
def cJ(h:n<BN^m):nl n<=m:=by
 rcases dE m (nl n) with a|a
 ·have c:dg n≠[]:=by intro e;rw[<-aK,e] at a;simp at a
  have b:=AJ AM (cI n) (vV n).2 c;rw[cU,aK,<-iX] at b;have d:BN^m<=BN^(nl n-1):=fT (by decide) (by omega);omega
 ·exact a
def AG(h:n≠0):BN^(nl n-1)<=n:=by
 have b:dg n≠[]:=by
  intro e;have:=cU n;rw[e] at this;have c:(n:Int)=0:=this.symm;omega
 have a:=AJ AM (cI n) (vV n).2 b;rw[cU,aK,<-iX] at a;omega
def gS(h:n≠0):0<nl n:=by
 rcases iB (nl n) with a|a
 ·have:=cyD n;rw[a] at this;simp at this;omega
 ·exact a
def p9(h:nl n=0):n=0:=by
 rcases iB n with a|a
 ·exact a
 ·have:=gS (n:=n) (by omega);omega
def cK(h:m<=n):nl m<=nl n:=cJ (jI h (cyD n))
def rK(m n:Nat):nl (m+n)<=max (nl m) (nl n)+1:=by
 refine cJ ?_;have a:=cyD m;have b:=cyD n;have c:BN^nl m<=BN^max (nl m) (nl n):=fT (by decide) (by omega);have d:BN^nl n<=BN^max (nl m) (nl n):=fT (by decide) (by omega);rw[dH];generalize BN^max (nl m) (nl n)=p at *;have:p*2<=p*BN:=eV _ N8;omega
def fI(m n:Nat):nl (m*n)<=nl m+nl n:=by
 rcases iB m with a|a
 ·subst a;rw[azW,dO];omega
 ·refine cJ ?_;rw[KF];exact byV (cyD m) (cyD n)
def mJ(a:n≠0)(h:n<BN):nl n=1:=by
 have b:=gS a;have c:=cJ (n:=n) (m:=1) (by simpa using h);omega
def pC(a:n≠0)(h:n<BN):dg n=[(n:Int)]:=by
 unfold dg;rw[jW,dif_neg (by have:=N8;omega),jJ h,azT h,FT]
def NatAt(w:World)(v:Value)(n:Nat):Prop:=∃A c,v= .slice A (nl n) c∧nl n<=c∧Rd .u64 w A (dg n)∧Old w A
def From(w:World)(vs:List Value)(v:Value):Prop:=∀b,v.ownBlock=some b->b<w.1.size->∃u∈vs,u.ownBlock=some b
def From.mem(h:v∈vs):From w vs v:=fun _ a _=>⟨v,h,a⟩
def From.new{off:Nat}(h:w.1.size<=g):From w vs (.slice (some ⟨g,off,s⟩) n c):=by
 intro b a d;have:g=b:=by simpa [Value.ownBlock] using a
 omega
def From.none:From w vs (.slice none n c):=by
 intro b a;simp[Value.ownBlock] at a
def From.trans{us:List Value}(h:From w1 us v)(g:w.1.size<=w1.1.size)(e:∀u∈us,From w vs u):From w vs v:=by
 intro b a c;obtain⟨u,d,f⟩:=h b a (by omega);exact e u d b f c
def From.same{f:Nat}(h:From w vs (.slice A n c)):From w vs (.slice A f c'):=by
 intro b d e;refine h b ?_ e;cases A with
 |none=>simp[Value.ownBlock] at d
 |some a=>simpa [Value.ownBlock] using d
def From.shift{b off f:Nat}{i:Option Nat}(h:From w vs (.slice (some ⟨b,off,s⟩) n c)):From w vs (.slice (some ⟨b,g,i⟩) f c'):=by
 intro a d e;exact h a (by simpa [Value.ownBlock] using d) e
def From.ne(h:From w vs v)(b:g<w.1.size)(hn:∀u∈vs,u.ownBlock≠some g):v.ownBlock≠some g:=by
 intro e;obtain⟨u,c,a⟩:=h g e b;exact hn u c a
def From.ne2{a b:Value}(h:From w [a,b] v)(f:g<w.1.size)(d:a.ownBlock≠some g)(e:b.ownBlock≠some g):v.ownBlock≠some g:=
 h.ne f (fun u c=>by
  rcases List.mem_cons.1 c with rfl|c
  ·exact d
  ·rcases List.mem_cons.1 c with rfl|c
   ·exact e
   ·cases c)
def From.swap{a b:Value}(h:From w [a,b] v):From w [b,a] v:=by
 intro g e f;obtain⟨u,c,d⟩:=h g e f;refine⟨u,?_,d⟩;rcases List.mem_cons.1 c with rfl|c
 ·exact j8 _ (iC ..)
 ·rcases List.mem_cons.1 c with rfl|c
  ·exact iC ..
  ·cases c
def jK(w:World)(vs:List Value)(n:Nat)(e:Ending)(w':World):Prop:=∃v,e= .returned v∧NatAt w' v n∧From w vs v∧Below w.1.size w w'
def NatAt.be(h:NatAt w v n)(a:Below w.1.size w w'):NatAt w' v n:=by
 obtain⟨A,c,hv,b,e,d⟩:=h;exact⟨A,c,hv,b,e.be a,d.mono a.size⟩
def NatAt.drewN(h:NatAt w v n)(k:Nat):NatAt (w.drewN k) v n:=h
def NatAt.drew(h:NatAt w v n):NatAt w.drew v n:=h
def NatAt.nil(w:World):NatAt w (.slice none 0 0) 0:=⟨none,0,by rw[dO],by rw[dO];exact aE,by rw[sR];exact Rd.nil,Old.none⟩
def NatAt.of(d:Rd .u64 w A zs)(f:Canon aA zs)(hv:aF aA zs=n)(a:zs.length<=c)(b:Old w A):NatAt w (.slice A zs.length c) n:=by
 have e:=vW f hv;subst e;exact⟨A,c,rfl,a,d,b⟩
def NatAt.trim(b:Rd .u64 w A zs)(f:InR aA zs)(hv:aF aA zs=n)(g:zs.length<=c)(a:Old w A):NatAt w (.slice A (trimL zs).length c) n:=by
 have e:=oE f hv;have d:=(qI zs).1;refine⟨A,c,?_,?_,?_,a⟩
 ·rw[<-aK,<-e]
 ·rw[<-aK,<-e];have:=oF zs;omega
 ·rw[<-e,d];exact b.take _
def Only.belowOf{off:Nat}{c:World}(h:Only g off n a b)(d:Below c.1.size c a)(e:c.1.size<=g):Below c.1.size c b:=
 d.trans (h.be d.size e)
structure Sim(A B f t u1 u2 v1 v2 g:Int):Prop where
 hf:f=g*(u1*A-v1*B)
 ht:t=g*(v2*B-u2*A)
 hd:u1*v2-u2*v1=g
 hg:g=1∨g= -1
 ht0:0<=t
 htf:t<=f
 hu1:0<=u1
 hu2:0<=u2
 hv1:0<=v1
 hv2:1<=v2
 huv:u2<=v2
 hst:(v1=0∧u1=1∧u2=0∧v2=1)∨(u1<=v1∧1<=v1∧1<=u2)
def Sim.sum{A B f t u1 a b g:Int}(h:Sim A B f t u1 u2 a b g):b*f+a*t=A:=by
 have c:=h.hd;rcases h.hg with e|e<;>rw[h.hf,h.ht]<;>subst e<;>grind
def Sim.start{A B:Int}(a:0<=B)(h:B<=A):Sim A B A B 1 0 0 1 1:=
 ⟨by omega,by omega,by decide,.inl rfl,a,h,by decide,by decide,by decide,by decide,by decide,.inl ⟨rfl,rfl,rfl,rfl⟩⟩
structure Prev(A B u0 u1 v0 v1 g:Int):Prop where
 hd:u0*v1-u1*v0= -g
 hg:g=1∨g= -1
 hu0:0<=u0
 hu1:1<=u1
 hv0:1<=v0
 huv0:u0<=v0
 huv1:u1<=v1
 h1:v1<=g*(u1*A-v1*B)
 h0:v0+v1<=-g*(u0*A-v0*B)-g*(u1*A-v1*B)
def Sim.step{A B f t u1 b a g q:Int}(h:Sim A B f t u1 u2 b a g)(m:q=f/t)(u:a<=t)(v:b+a<=f-t):
  Sim A B t (f%t) u2 (u1+q*u2) a (b+q*a) (-g)∧(b=0∨Prev A B u1 u2 b a (-g))∧1<=q∧0<=q*u2∧0<=q*a∧u1+q*u2<=b+q*a∧b+q*a<=A:=by
 have n:0<t:=by have:=h.hv2;omega
 have k:1<=q:=by rw[m];exact Int.le_ediv_of_mul_le n (by have:=h.htf;omega)
 have p:f%t=f-q*t:=by rw[Int.emod_def,m,fD t]
 have r:0<=q*u2:=gB (by omega) h.hu2;have s:0<=q*a:=gB (by omega) (by have:=h.hv2;omega);have C:q*u2<=q*a:=gK h.huv (by omega);have z:1*a<=q*a:=eH k (by have:=h.hv2;omega);have o:u1+q*u2<=b+q*a:=by
  rcases h.hst with ⟨c,d,i,j⟩|⟨c,d,i⟩
  ·subst c d i j;omega
  ·omega
 have l:Sim A B t (f%t) u2 (u1+q*u2) a (b+q*a) (-g):=by
  refine⟨?_,?_,?_,?_,aqG _ (by omega),fP (aqF _ n),h.hu2,by have:=h.hu1;omega,by have:=h.hv2;omega,by have:=h.hv1;have:=h.hv2;omega,o,?_⟩
  ·have:=h.ht;rw[this];grind
  ·rw[p];have c:=h.hf;have d:=h.ht;rw[c,d];grind
  ·have:=h.hd;grind
  ·have:=h.hg;omega
  ·refine .inr ⟨h.huv,h.hv2,?_⟩;rcases h.hst with ⟨c,d,i,j⟩|⟨c,d,i⟩
   ·subst d;omega
   ·have:1*u2<=q*u2:=eH k h.hu2;have:=h.hu1;omega
 refine⟨l,?_,k,r,s,o,?_⟩
 ·rcases h.hst with ⟨c,d,i,j⟩|⟨c,d,i⟩
  ·exact .inl c
  ·refine .inr ⟨?_,?_,h.hu1,i,d,c,h.huv,?_,?_⟩
   ·have:=h.hd;omega
   ·have:=h.hg;omega
   ·have:=h.ht;have e: -g*(u2*A-a*B)=t:=by rw[this];grind
    omega
   ·have w: - -g*(u1*A-b*B)=f:=by rw[h.hf];grind
    have e: -g*(u2*A-a*B)=t:=by rw[h.ht];grind
    omega
 ·have D:=l.sum;have x:(b+q*a)*1<=(b+q*a)*t:=gK (by omega) (by have:=h.hv1;omega);have y:0<=a*(f%t):=gB (by have:=h.hv2;omega) l.ht0;omega
def Sim.room{A B f t u1 a b g:Int}(h:Sim A B f t u1 u2 a b g):(b<=t->a+b<=A)∧a<=b*f+a*t+a:=by
 refine⟨fun c=> ?_,?_⟩
 ·have i:=h.sum;have d:b*1<=b*f:=gK (by have:=h.hv2;have:=h.htf;omega) (by have:=h.hv2;omega);have e:a*1<=a*t:=gK (by have:=h.hv2;omega) h.hv1;omega
 ·have d:0<=b*f:=gB (by have:=h.hv2;omega) (by have:=h.ht0;have:=h.htf;omega);have e:0<=a*t:=gB h.hv1 h.ht0;omega
structure Leh(a b u0 u1 v0 v1:Nat)(odd:Bool)(na nb:Nat):Prop where
 hle:nb<=na
 ha:a=v1*na+v0*nb
 hb:b=u1*na+u0*nb
 h0:1<=v0
 h1:1<=v1
 h2:1<=u1
 hna:(na:Int)=(if odd then -1 else 1)*((v0:Int)*b-u0*a)
 hnb:(nb:Int)=(if odd then -1 else 1)*((u1:Int)*a-v1*b)
def Leh.small{a b e f d:Nat}{g:Bool}(h:Leh a b u0 u1 e f g c d):c+d<=a∧c<=b:=by
 have i:1*c<=f*c:=dK _ h.h1;have j:1*d<=e*d:=dK _ h.h0;have k:1*c<=u1*c:=dK _ h.h2;have:=h.ha;have:=h.hb;omega
def Leh.gcd{a b l d:Nat}{m:Bool}(h:Leh a b u0 u1 k l m c d):Nat.gcd a b=Nat.gcd c d:=by
 refine Nat.dvd_antisymm ?_ ?_
 ·have f:=aqX a b;have g:=azU a b;have i:((Nat.gcd a b:Nat):Int)∣(a:Int):=Int.natCast_dvd_natCast.2 f;have j:((Nat.gcd a b:Nat):Int)∣(b:Int):=Int.natCast_dvd_natCast.2 g;refine Nat.dvd_gcd (Int.natCast_dvd_natCast.1 ?_) (Int.natCast_dvd_natCast.1 ?_)
  ·rw[h.hna];exact bxJ (Int.dvd_sub (bxJ j) (bxJ i))
  ·rw[h.hnb];exact bxJ (Int.dvd_sub (bxJ i) (bxJ j))
 ·have f:=aqX c d;have g:=azU c d;refine Nat.dvd_gcd ?_ ?_
  ·have e:=h.ha;have:Nat.gcd c d∣l*c+k*d:=Nat.dvd_add (bzE f _) (bzE g _);rwa [<-e] at this
  ·have e:=h.hb;have:Nat.gcd c d∣u1*c+u0*d:=Nat.dvd_add (bzE f _) (bzE g _);rwa [<-e] at this
def FL{u v a b P:Int}(g:0<=u)(h:u<=v)(c:0<=a)(k:a<P)(f:0<=b)(l:b<P):u*a-v*b<=v*P-v∧v*b-u*a<=v*P-v:=by
 have d:u*a<=v*(P-1):=Int.mul_le_mul h (by omega) c (by omega);have e:v*b<=v*(P-1):=gK (by omega) (by omega);have i:0<=u*a:=gB g c;have j:0<=v*b:=gB (by omega) f;rw[Int.mul_sub,bx7] at d e;omega
def OQ{d A P:Nat}{t:Bool}(h:Prev A B u0 u1 d c (if t then -1 else 1))(J:i<P)(K:j<P):
  ∃C D,Leh (A*P+i) (B*P+j) u0 u1 d c t C D:=by
 obtain⟨g,r⟩:∃g:Int,g=if t then -1 else 1:=⟨_,rfl⟩;rw[<-r] at h;obtain⟨a,n⟩:∃a:Int,a=A*P+i:=⟨_,rfl⟩;obtain⟨b,o⟩:∃b:Int,b=B*P+j:=⟨_,rfl⟩;have I:(0:Int)<P:=by omega
 have Q:=FL (u:=u1) (v:=c) (a:=i) (b:=j) (P:=P) (by omega) h.huv1 (by omega) (by omega) (by omega) (by omega);have O:=FL (u:=u0) (v:=d) (a:=i) (b:=j) (P:=P) (by omega) h.huv0 (by omega) (by omega) (by omega) (by omega);have N:(1:Int)<=c:=by have:=h.hu1;have:=h.huv1;omega
 have M:=h.hv0;obtain⟨k,p⟩:∃k:Int,k=g*(d*b-u0*a):=⟨_,rfl⟩;obtain⟨f,q⟩:∃f:Int,f=g*(u1*a-c*b):=⟨_,rfl⟩;obtain⟨m,x⟩:∃m:Int,m=g*(d*B-u0*A):=⟨_,rfl⟩;obtain⟨l,s⟩:∃l:Int,l=g*(u1*A-c*B):=⟨_,rfl⟩;have F:k=m*P+g*(d*j-u0*i):=by rw[p,x,n,o];grind
 have G:f=l*P+g*(u1*i-c*j):=by rw[q,s,n,o];grind
 have z:(c:Int)<=l:=by have:=h.h1;rw[<-s] at this;exact this
 have y:(d:Int)+c<=m-l:=by
  have:=h.h0;have e: -g*((u0:Int)*A-d*B)=m:=by rw[x];grind
  rw[e,<-s] at this;exact this
 have R:(c:Int)*P<=l*P:=eH z (by omega);have E:((d:Int)+c)*P<=(m-l)*P:=eH y (by omega);rw[azG,Int.sub_mul] at E;have w:0<=f:=by
  rcases h.hg with e|e<;>subst e<;>omega
 have H:f<=k:=by
  rcases h.hg with e|e<;>subst e<;>omega
 have L:=h.hd;refine⟨k.toNat,f.toNat,?_,?_,?_,by omega,by omega,by have:=h.hu1;omega,?_,?_⟩
 ·omega
 ·have:((A*P+i:Nat):Int)=((c*k.toNat+d*f.toNat:Nat):Int):=by
   push_cast;rw[bxW (by omega),bxW w,<-n,p,q];rcases h.hg with e|e<;>subst e<;>grind
  exact Int.ofNat.inj this
 ·have:((B*P+j:Nat):Int)=((u1*k.toNat+u0*f.toNat:Nat):Int):=by
   push_cast;rw[bxW (by omega),bxW w,<-o,p,q];rcases h.hg with e|e<;>subst e<;>grind
  exact Int.ofNat.inj this
 ·rw[bxW (by omega),p,r];push_cast;rw[n,o]
 ·rw[bxW (by omega),q,r];push_cast;rw[n,o]
/-! The binary method -/
def OR(a:x%2=1):Nat.Coprime 2 x:=by
 show Nat.gcd 2 x=1
 rw[Nat.gcd_rec,a];rfl
def vT{y:Nat}(a:x%2=1)(k:Nat):Nat.gcd x (2^k*y)=Nat.gcd x y:=
 Nat.Coprime.gcd_mul_left_cancel_right y (Nat.Coprime.pow_left k (OR a))
def Tz(x k:Nat):Prop:=∃m,x=2^k*(2*m+1)
def vU(a:x≠0)(h:x<BN):Tz x (Lib.ctz 64 x)∧Lib.ctz 64 x<64:=by
 unfold Lib.ctz;rw[if_neg a];obtain⟨m,c,b⟩:=Lib.ctzFrom_spec 64 x (by omega) h;exact⟨⟨m,c⟩,b⟩
def Tz.bits(h:Tz x k):x.testBit k=true∧∀t,t<k->x.testBit t=false:=by
 obtain⟨m,rfl⟩:=h;refine⟨?_,fun t a=> ?_⟩
 ·rw[Nat.testBit_two_pow_mul];simp[Nat.testBit_zero]
 ·rw[Nat.testBit_two_pow_mul];simp;omega
def Tz.or{y z:Nat}(e:Tz x i)(f:Tz y j)(g:Tz z k)(h:z=x ||| y):k=min i j:=by
 obtain⟨l,m⟩:=e.bits;obtain⟨n,o⟩:=f.bits;obtain⟨p,c⟩:=g.bits;have a:∀t,z.testBit t=(x.testBit t||y.testBit t):=fun t=>by rw[h,Nat.testBit_or]
 rcases bzH k (min i j) with b|b|b
 ·have:=a k;rw[p,m k (by omega),o k (by omega)] at this;simp at this
 ·exact b
 ·rcases Nat.le_total i j with d|d
  ·have:=a i;rw[c i (by omega),l] at this;simp at this
  ·have:=a j;rw[c j (by omega),n] at this;simp at this
def Tz.gcd{y a:Nat}(e:Tz y j)(c:x=2^i*a)(b:a%2=1):2^min i j*Nat.gcd a y=Nat.gcd x y:=by
 obtain⟨n,rfl⟩:=e;rw[vT b];subst c;rcases Nat.le_total i j with h|h
 ·obtain⟨d,rfl⟩:∃d,j=i+d:=⟨j-i,by omega⟩;rw[y8 h,KF,iW,Nat.gcd_mul_left,vT b]
 ·obtain⟨d,rfl⟩:∃d,i=j+d:=⟨i-j,by omega⟩;rw[Nat.min_eq_right h,KF,iW,Nat.gcd_mul_left,azD (2^d*a),vT (by omega),azD]
def gZ:(Tryz.prog.info? 143).map (fun i=>(i.zero,i.size,i.bytes))=some (some (.int .u64 0),1,8):=by kernel_rfl
def V5:(Tryz.prog.info? 143).map (·.size)=some 1:=by kernel_rfl
def sX(n:Nat)(hn:n<BN)(w:World):Calls prog 107 #[.int .u64 n] w (jK w [] n):=by
 by_cases a:n=0
 ·subst a;go_enter func107,ntmps107;go_wp2;go_ret;exact⟨_,rfl,NatAt.nil _,From.none,aG _ _⟩
 ·have c:((n:Int)==0)=false:=by simp;omega
  go_enter func107,ntmps107;go_wp2;go_ret;refine⟨_,rfl,⟨_,1,by rw[mJ a hn];rfl,by rw[mJ a hn];exact aE,?_,Old.mk (by simp)⟩,From.new aE,(aG _ _).alloc aE _⟩;rw[pC a hn];refine Rd.mk (by simp) ?_;intro i b;obtain rfl:i=0:=by simpa using b
  simp[go_sem]
def bZ(x y:Int):Int:=if x<y then -1 else if y<x then 1 else 0
def jL{x:Int}(h:x<y):bZ x y= -1:=by unfold bZ;rw[if_pos h]
def mO{x:Int}(h:y<x):bZ x y=1:=by unfold bZ;rw[if_neg (by omega),if_pos h]
def eqU(x:Int):bZ x x=0:=by unfold bZ;rw[if_neg (by omega),if_neg (by omega)]
def kJ(x y:Int):(x<y∧bZ x y= -1)∨(x=y∧bZ x y=0)∨(y<x∧bZ x y=1):=by
 rcases aqL x y with h|h|h
 ·exact .inl ⟨h,jL h⟩
 ·subst h;exact .inr (.inl ⟨rfl,eqU x⟩)
 ·exact .inr (.inr ⟨h,mO h⟩)
def fy2(x y:Int)(w:World):Calls prog 139 #[.int .i64 x,.int .i64 y] w fun e w'=>e= .returned (.int .i64 (bZ x y))∧w=w':=by
 rcases kJ x y with ⟨a,e⟩|⟨a,e⟩|⟨a,e⟩
 ·rw[e];clear e;go_enter func139,ntmps139;go_wp2;go_ret;exact⟨rfl,rfl⟩
 ·rw[e];clear e;subst a;go_enter func139,ntmps139;go_wp2;go_ret;exact⟨rfl,rfl⟩
 ·rw[e];clear e;have b:¬x<y:=by omega
  go_enter func139,ntmps139;go_wp2;go_ret;exact⟨rfl,rfl⟩
def QA(x y:Int)(w:World):Calls prog 151 #[.int .u64 x,.int .u64 y] w fun e w'=>e= .returned (.int .i64 (bZ x y))∧w=w':=by
 rcases kJ x y with ⟨a,e⟩|⟨a,e⟩|⟨a,e⟩
 ·rw[e];clear e;go_enter func151,ntmps151;go_wp2;go_ret;exact⟨rfl,rfl⟩
 ·rw[e];clear e;subst a;go_enter func151,ntmps151;go_wp2;go_ret;exact⟨rfl,rfl⟩
 ·rw[e];clear e;have b:¬x<y:=by omega
  go_enter func151,ntmps151;go_wp2;go_ret;exact⟨rfl,rfl⟩
def G3(e:InR aA xs)(f:InR aA ys)(h:xs.length=ys.length)(d:k<xs.length)(c:xs.drop (k+1)=ys.drop (k+1))
  (i:xs.getD k 0<ys.getD k 0):aF aA xs<aF aA ys:=by
 rw[gF aA xs k (by omega),gF aA ys k (by omega),nD aA xs k d,nD aA ys k (by omega),c];have a:=iO aQ (e.take k);have g:=y9 aQ (f.take k);rw[bK,y8 (by omega)] at a
 have b:aA^k*(xs.getD k 0+aA*aF aA (ys.drop (k+1))+1)<=aA^k*(ys.getD k 0+aA*aF aA (ys.drop (k+1))):=
  gK (by omega) (fP (nW aQ k))
 rw[bx6 _ _ 1,bx7] at b;omega
def eO(w:World)(n:Int)(e:Ending)(w':World):Prop:=e= .returned (.int .i64 n)∧Below w.1.size w w'
def QF(x y:Nat)(Q R:Value)(w:World)(hx:NatAt w Q x)(hy:NatAt w R y)(bx:nl x<=17592186044416)(bY:nl y<=17592186044416):
  Calls prog 111 #[Q,R] w (eO w (bZ x y)):=by
 obtain⟨A,c,rfl,hc,ac,_⟩:=hx;obtain⟨B,d,rfl,hd,ad,_⟩:=hy;rcases bzH (nl x) (nl y) with D|D|D
 ·have C:(nl x:Int)<nl y:=by omega
  have G:((nl x:Int) != (nl y:Int))=true:=by simp;omega
  have X:x<y:=by
   rcases dE x y with h|h
   ·exact h
   ·have:=cK h;omega
  go_enter func111,ntmps111;go_wp2_with fail;refine(fy2 _ _ _).mono ?_;rintro e w' ⟨rfl,rfl⟩;go_wp2;go_ret;exact⟨by rw[jL C,jL (show(x:Int)<y by omega)];rfl,aG _ _⟩
 ·have G:((nl x:Int) != (nl y:Int))=false:=by simp;omega
  have H:=cI x;have I:=cI y;have v:=cU x;have z:=cU y;have t:=aK x;have u:=aK y;generalize dg x=f at *;generalize dg y=g at *;generalize nl x=n at *;generalize nl y=m at *;subst D;have E:=aB v;have F:=aB z;have k:=aB t;have l:=aB u;clear v z t u;go_enter func111,ntmps111;go_wp2;go_loopw [5] (fun i wr=>∃q:Int, -1<=q∧q<n∧i= .int .i64 q∧Hid (f.drop (q+1).toNat=g.drop (q+1).toNat)∧Below w.1.size w wr) (fun i _=>(intOf i+1).toNat)
  case atStart=>exact⟨(n:Int)-1,by omega,by omega,rfl,by
   have Z:=k.out;have h2:=l.out;rw[show((n:Int)-1+1).toNat=n by omega];unfold Hid;rw[gO (by omega),gO (by omega)],aG _ _⟩
  case round=>
   obtain⟨q,af,ag,rfl,s,r⟩:=hrel;by_cases Y:0<=q
   ·obtain⟨j,rfl⟩:=j7 Y;obtain⟨b,ah,rfl,hb,K⟩:=(ac.be r).at_ (by have:=k.out;omega);obtain⟨b',ai,rfl,ae,L⟩:=(ad.be r).at_ (by have:=l.out;omega);have Z:=K j (by have:=k.out;omega);have h2:=L j (by have:=l.out;omega);clear K L;have P:((j:Int)+1).toNat=j+1:=by omega
    rw[P] at s;have N:=fun (h:f.getD j 0<g.getD j 0)=>G3 H I (by have:=k.out;have:=l.out;omega) (by have:=k.out;omega) s.out h;have O:=fun (h:g.getD j 0<f.getD j 0)=>G3 I H (by have:=k.out;have:=l.out;omega) (by have:=l.out;omega) s.out.symm h;have M:f.getD j 0=g.getD j 0->f.drop j=g.drop j:=fun h=>by
     have t:j<f.length:=by have:=k.out;omega
     have u:j<g.length:=by have:=l.out;omega
     rw[j5 t,j5 u,s.out];rw[eF,eF,aR t,aR u] at h;simp only[Option.getD_some] at h;rw[h]
    generalize f.getD j 0=a at *;generalize g.getD j 0=p at *;have V:=aB N;have W:=aB O;have T:=aB M;clear N O M P;by_cases o:a=p
    ·have ab:(a != p)=false:=by simp[o]
     have U:=aB (T.out o);subst o;go_wp2;go_quiet (fail);go_wp2;go_roundw
     case rel=>exact⟨(j:Int)-1,by omega,by omega,rfl,by
      rw[show((j:Int)-1+1).toNat=j by omega];exact U,kI r _⟩
     case measure=>simp[intOf]
    ·have ab:(a != p)=true:=by simp[o]
     have J:bZ a p=bZ x y:=by
      have v:=E.out;have z:=F.out;rcases aqL a p with h|h|h
      ·have:=V.out h;rw[jL h,jL (by omega)]
      ·exact absurd h o
      ·have:=W.out h;rw[mO h,mO (by omega)]
     have S:=aB J;clear J o;go_wp2;go_quiet (fail);go_wp2;go_quiet ((go_at_call 151;exact FP (QA _ _ _)));go_wp2;go_ret;exact⟨by rw[<-S.out];rfl,kI (kI r _) _⟩
   ·obtain rfl:q= -1:=by omega
    go_wp2;go_ret;refine⟨?_,r⟩;have v:=E.out;have z:=F.out;have e:f=g:=by simpa using s.out
    rw[show(x:Int)=y by rw[<-v,<-z,e],eqU];rfl
 ·have C:(nl y:Int)<nl x:=by omega
  have G:((nl x:Int) != (nl y:Int))=true:=by simp;omega
  have X:y<x:=by
   rcases dE y x with h|h
   ·exact h
   ·have:=cK h;omega
  go_enter func111,ntmps111;go_wp2_with fail;refine(fy2 _ _ _).mono ?_;rintro e w' ⟨rfl,rfl⟩;go_wp2;go_ret;exact⟨by rw[mO C,mO (show(y:Int)<x by omega)];rfl,aG _ _⟩
def Q6(w:World)(zs:List Int)(e:Ending)(w':World):Prop:=∃v,e= .returned v∧FO .u64 w' w.1.size v zs∧Below w.1.size w w'
def Rd.src{k:IntKind}(h:Rd k w A zs):Src w A (zs.map (Value.int k)):=by
 rcases h with rfl|⟨b,c,rfl,_,a⟩
 ·exact .inl rfl
 ·exact .inr ⟨b,c,rfl,a.vc⟩
def eqT(w:World)(e:TypeId)(a:Nat):(w.alloc (.cells #[] e)).ownsRow w.1.size e a (.slice (some ⟨w.1.size,0,none⟩) 0 0) 0 []:=
 ⟨by simp,.inr ⟨w.1.size,0,#[],rfl,aE,heap_alloc_new w _,aE,dC _,by simp,by simp⟩⟩
def Q7(A:Option Addr)(zs:List Int)(c:Nat)(w:World)(b:Rd .u64 w A zs)(n:zs.length*8<=140737488355328):
  Calls prog 152 #[.slice A zs.length c] w (Q6 w zs):=by
 cases A with
 |none=>
  have d:zs=[]:=by
   rcases b with h|⟨_,_,h,_⟩
   ·exact h
   ·cases h
  subst d;have j:∀w:World,(binOp .eql 75 (.slice none 0 c) (.slice none 0 0)).run prog w= .ok (.bool true) w:=fun w=>Lib.run_eql_slice_nil w _ 143 none 0 c 0 0 underlying75;go_enter func152,ntmps152;go_wp2;go_ret;exact⟨_,rfl,⟨none,0,rfl,aE,.inl rfl⟩,aG _ _⟩
 |some a=>
  have j:∀w:World,(binOp .eql 75 (.slice (some a) zs.length c) (.slice none 0 0)).run prog w= .ok (.bool false) w:=fun w=>Lib.run_eql_slice_nil w _ 143 (some a) zs.length c 0 0 underlying75;go_enter func152,ntmps152;have k:Src (w.alloc (.cells #[] 143)) (some a) (zs.map (Value.int .u64)):=(b.be ((aG _ _).alloc aE _)).src;have i:=eqT w 143 1;go_wp2_with (at_builtin;refine gM rfl rfl 143 _ 1 8 underlying75 gZ rfl (by decide) w.1.size (.slice (some ⟨w.1.size,0,none⟩) 0 0) 0 [] rfl i (zs.map (Value.int .u64)) rfl (by simp) k (ints_oneCell _ _) (by omega) (by omega) (by simp) ?_;intro l o g f m);go_ret;refine⟨l,rfl,fqA (e:=143) (by simpa using g),?_⟩;exact((aG w.1.size w).alloc aE _).grown f (by simp) (by simp[Value.ownBlock])
def mN(n:Nat)(ys:List Int)(h:ys.length<=n):aF aA (cV (List.replicate n 0) ys)=aF aA ys:=by
 unfold cV;rw[dB,cZ h,bxL,kV,mL];simp
def sW(a:InR aA xs)(b:InR aA ys):InR aA (cV xs ys):=(b.take _).append (a.drop _)
def G1{a b:Int}(d:a<aA^n)(e:b<aA^n):a+b<aA^(n+1):=by
 rw[gR];have c:=nW aQ n;have:aA^n*2<=aA^n*aA:=gK (by decide) (by omega);omega
def rP(x y:Nat)(I J:Value)(w:World)(R:NatAt w I x)(S:NatAt w J y)(X:nl x<=17592186044415)(W:nl y<=17592186044415):
  Calls prog 110 #[I,J] w (jK w [I,J] (x+y)):=by
 obtain⟨A,c,rfl,N,t,P⟩:=R;obtain⟨B,d,rfl,O,u,Q⟩:=S;by_cases Y:nl x<nl y
 ·by_cases D:nl x=0
  ·obtain rfl:=p9 D;rw[bA];have z:((nl 0:Nat):Int)<nl y:=by omega
   have C:(((nl 0:Nat):Int)==0)=true:=by simp[dO]
   go_enter func110,ntmps110;go_wp2;go_ret;exact⟨_,rfl,⟨B,d,rfl,O,u,Q⟩,From.mem (by simp),aG _ _⟩
  ·have z:((nl x:Nat):Int)<nl y:=by omega
   have C:(((nl x:Nat):Int)==0)=false:=by simp;omega
   go_enter func110,ntmps110
   go_wp2_with (first
    |(at_make;refine kG rfl rfl .u64 143 8 underlying75 gZ (nl y+1) rfl rfl (by omega) (by omega) (by omega) (by omega) ?_;intro U H p E k)
    |(with_reducible refine mK rfl rfl .u64 143 underlying75 V5 rfl rfl w.1.size 0 (List.replicate (nl y+1) 0) (dg y) (by simp) rfl (fun _=>rfl) E p (u.be k) ?_;intro r F a))
   rw[dB] at a;have l:Below w.1.size w r:=a.belowOf k aE;refine(eq9 w.1.size 0 (nl y+1) _ (nl y+1) A (nl x) (dg x) c r (by rw[lN];simp) rfl F (a.soft p) aE (by omega) (t.be l) ?hn (by omega) (sW (InR.replicate aQ _) (cI y)) (cI x) ?hv).mono ?_
   case hn=>
    rintro b o rfl h;obtain⟨L,T,e,M,_⟩:=t.at_ h;injection e with e;injection e;omega
   case hv=>
    rw[mN _ _ (by rw[aK];omega)];have i:=iO aQ (cI y);have j:=iO aQ (cI x);rw[aK] at i j;exact G1 i (Int.lt_of_lt_of_le j (vZ (by decide) (by omega)))
   rintro e s ⟨rfl,K,q,G,hv,m,n⟩;rw[mN _ _ (by rw[aK];omega),cU,cU] at hv;have v:=aB hv;have g:=aB q;clear hv q;have f:w.1.size<s.1.size:=aZ H (aH a.grown.size n.grown.size);go_wp2_with fail;refine(gC _ K (nl y+1) (nl y+1) s g.out (Rd.mk f m) aE (by omega)).mono ?_;rintro e V ⟨rfl,rfl⟩;go_wp2;go_ret;exact⟨_,rfl,NatAt.trim (Rd.mk f m) G (by rw[v.out];omega) (by rw[g.out];exact aE) (Old.mk f),From.new aE,n.belowOf l aE⟩
 ·by_cases D:nl y=0
  ·obtain rfl:=p9 D;rw[gQ];have z:¬((nl x:Nat):Int)<((nl 0:Nat):Int):=by omega
   have C:(((nl 0:Nat):Int)==0)=true:=by simp[dO]
   go_enter func110,ntmps110;go_wp2;go_ret;exact⟨_,rfl,⟨A,c,rfl,N,t,P⟩,From.mem (by simp),aG _ _⟩
  ·have z:¬((nl x:Nat):Int)<nl y:=by omega
   have C:(((nl y:Nat):Int)==0)=false:=by simp;omega
   go_enter func110,ntmps110
   go_wp2_with (first
    |(at_make;refine kG rfl rfl .u64 143 8 underlying75 gZ (nl x+1) rfl rfl (by omega) (by omega) (by omega) (by omega) ?_;intro U H p E k)
    |(with_reducible refine mK rfl rfl .u64 143 underlying75 V5 rfl rfl w.1.size 0 (List.replicate (nl x+1) 0) (dg x) (by simp) rfl (fun _=>rfl) E p (t.be k) ?_;intro r F a))
   rw[dB] at a;have l:Below w.1.size w r:=a.belowOf k aE;refine(eq9 w.1.size 0 (nl x+1) _ (nl x+1) B (nl y) (dg y) d r (by rw[lN];simp) rfl F (a.soft p) aE (by omega) (u.be l) ?hn (by omega) (sW (InR.replicate aQ _) (cI x)) (cI y) ?hv).mono ?_
   case hn=>
    rintro b o rfl h;obtain⟨L,T,e,M,_⟩:=u.at_ h;injection e with e;injection e;omega
   case hv=>
    rw[mN _ _ (by rw[aK];omega)];have i:=iO aQ (cI x);have j:=iO aQ (cI y);rw[aK] at i j;exact G1 i (Int.lt_of_lt_of_le j (vZ (by decide) (by omega)))
   rintro e s ⟨rfl,K,q,G,hv,m,n⟩;rw[mN _ _ (by rw[aK];omega),cU,cU] at hv;have v:=aB hv;have g:=aB q;clear hv q;have f:w.1.size<s.1.size:=aZ H (aH a.grown.size n.grown.size);go_wp2_with fail;refine(gC _ K (nl x+1) (nl x+1) s g.out (Rd.mk f m) aE (by omega)).mono ?_;rintro e V ⟨rfl,rfl⟩;go_wp2;go_ret;exact⟨_,rfl,NatAt.trim (Rd.mk f m) G (by rw[v.out];omega) (by rw[g.out];exact aE) (Old.mk f),From.new aE,n.belowOf l aE⟩
def qM(x y:Nat)(j k:Value)(w:World)(K:NatAt w j x)(L:NatAt w k y)(R:nl x<=17592186044415)(H:y<=x):
  Calls prog 112 #[j,k] w (jK w [j,k] (x-y)):=by
 obtain⟨A,c,rfl,F,s,J⟩:=K;obtain⟨B,d,rfl,T,t,U⟩:=L;have I:=cK H;by_cases E:nl y=0
 ·obtain rfl:=p9 E;have D:(((nl 0:Nat):Int)==0)=true:=by simp[dO]
  go_enter func112,ntmps112;go_wp2;go_ret;exact⟨_,rfl,⟨A,c,rfl,F,s,J⟩,From.mem (by simp),aG _ _⟩
 ·have D:(((nl y:Nat):Int)==0)=false:=by simp;omega
  go_enter func112,ntmps112;go_wp2_with fail;refine(Q7 A (dg x) c w s (by rw[aK];omega)).mono ?_;rintro e N ⟨W,rfl,⟨P,m,rfl,a,i⟩,n⟩;rcases i with i|⟨g,rfl,q,u,G⟩
  ·have:=congrArg List.length i;rw[aK] at this;simp at this;omega
  go_wp2_with fail;refine(FX g 0 (nl x) (dg x) m B (nl y) (dg y) d N rfl rfl G u a (by omega) (t.be n) ?hn I (cI x) (cI y) ?hv).mono ?_
  case hn=>
   rintro b o rfl h;obtain⟨Q,V,e,S,_⟩:=t.at_ h;injection e with e;injection e;omega
  case hv=>rw[cU,cU];omega
  rintro e z ⟨rfl,O,v,M,hv,p,r⟩;rw[cU,cU] at hv;have C:=aB hv;have l:=aB v;clear hv v;have f:g<z.1.size:=aZ u.lt r.grown.size;go_wp2_with fail;refine(gC _ O (nl x) m z l.out (Rd.mk f p) a (by omega)).mono ?_;rintro e X ⟨rfl,rfl⟩;go_wp2;go_ret;exact⟨_,rfl,NatAt.trim (Rd.mk f p) M (by rw[C.out];omega) (by rw[l.out];exact a) (Old.mk f),From.new q,r.belowOf n q⟩
end Go.Proofs.YtmiaanioldpfgaaGreatDoor
namespace Go.Proofs
open Go.Shelf
def Tryz.lays125_ren:Go.Shelf.Ren:=⟨fun|125=>138|128=>176|129=>177|n=>n,fun|46=>95|3=>3|51=>140|53=>143|4=>4|5=>5|9=>9|n=>n,fun|n=>n⟩
def Tryz.lays125:Go.Proofs.Lays.n125 prog Tryz.lays125_ren:={
 mixed:=by kernel_rfl
 f125:=Tryz.func138.trans (congrArg some (by kernel_rfl))
 f128:=Tryz.func176.trans (congrArg some (by kernel_rfl))
 f129:=Tryz.func177.trans (congrArg some (by kernel_rfl))
 t3:=underlying3
 a3:=Tryz.isAgg3
 z3:=Tryz.sizeOf3
 v3:=Tryz.zeroValue3
 t4:=underlying4
 a4:=Tryz.isAgg4
 z4:=Tryz.sizeOf4
 v4:=Tryz.zeroValue4
 t5:=underlying5
 a5:=Tryz.isAgg5
 z5:=Tryz.sizeOf5
 v5:=Tryz.zeroValue5
 t9:=underlying9
 a9:=Tryz.isAgg9
 z9:=Tryz.sizeOf9
 v9:=Tryz.zeroValue9
 t46:=underlying95
 a46:=Tryz.isAgg95
 z46:=Tryz.sizeOf95
 v46:=Tryz.zeroValue95
 t51:=underlying140
 a51:=Tryz.isAgg140
 z51:=Tryz.sizeOf140
 v51:=Tryz.zeroValue140
 t53:=underlying143
 a53:=Tryz.isAgg143
 z53:=Tryz.sizeOf143
 v53:=Tryz.zeroValue143 }
def Tryz.bits_Len(x:Int)(w:World)(a:0<=x)(b:x<=18446744073709551615):
  Calls prog 138 #[.int .u64 x] w fun e w'=>e= .returned (.int .i64 (Lib.bitLen x.toNat))∧w'=w:=Any.bits_Len Tryz.lays125 x w a b
def Tryz.lays134_ren:Go.Shelf.Ren:=⟨fun|134=>190|129=>177|n=>n,fun|53=>143|3=>3|4=>4|46=>95|5=>5|9=>9|n=>n,fun|n=>n⟩
def Tryz.lays134:Go.Proofs.Lays.n134 prog Tryz.lays134_ren:={
 mixed:=by kernel_rfl
 f129:=Tryz.func177.trans (congrArg some (by kernel_rfl))
 f134:=Tryz.func190.trans (congrArg some (by kernel_rfl))
 t3:=underlying3
 a3:=Tryz.isAgg3
 z3:=Tryz.sizeOf3
 v3:=Tryz.zeroValue3
 t4:=underlying4
 a4:=Tryz.isAgg4
 z4:=Tryz.sizeOf4
 v4:=Tryz.zeroValue4
 t5:=underlying5
 a5:=Tryz.isAgg5
 z5:=Tryz.sizeOf5
 v5:=Tryz.zeroValue5
 t9:=underlying9
 a9:=Tryz.isAgg9
 z9:=Tryz.sizeOf9
 v9:=Tryz.zeroValue9
 t46:=underlying95
 a46:=Tryz.isAgg95
 z46:=Tryz.sizeOf95
 v46:=Tryz.zeroValue95
 t53:=underlying143
 a53:=Tryz.isAgg143
 z53:=Tryz.sizeOf143
 v53:=Tryz.zeroValue143 }
def Tryz.bits_LeadingZeros64(x:Int)(w:World)(a:0<=x)(b:x<=18446744073709551615):
  Calls prog 190 #[.int .u64 x] w fun e w'=>e= .returned (.int .i64 (64-(Lib.bitLen x.toNat:Int)))∧w'=w:=Any.bits_LeadingZeros64 Tryz.lays134 x w a b
def Tryz.lays103_ren:Go.Shelf.Ren:=⟨fun|103=>133|210=>161|206=>188|n=>n,fun|9=>9|4=>4|24=>183|3=>3|n=>n,fun|n=>n⟩
def Tryz.lays103:Go.Proofs.Lays.n103 prog Tryz.lays103_ren:={
 mixed:=by kernel_rfl
 f103:=Tryz.func133.trans (congrArg some (by kernel_rfl))
 f206:=Tryz.func188.trans (congrArg some (by kernel_rfl))
 f210:=Tryz.func161.trans (congrArg some (by kernel_rfl))
 t3:=underlying3
 a3:=Tryz.isAgg3
 z3:=Tryz.sizeOf3
 v3:=Tryz.zeroValue3
 t4:=underlying4
 a4:=Tryz.isAgg4
 z4:=Tryz.sizeOf4
 v4:=Tryz.zeroValue4
 t9:=underlying9
 a9:=Tryz.isAgg9
 z9:=Tryz.sizeOf9
 v9:=Tryz.zeroValue9
 t24:=underlying183
 a24:=Tryz.isAgg183
 z24:=Tryz.sizeOf183
 v24:=Tryz.zeroValue183 }
open Go.RowKit in
def Tryz.strings_CutPrefix(s p:ByteArray)(w:World):
  Calls prog 133 #[.string s,.string p] w fun e w'=>e= .returned (.tuple #[.string ⟨(Lib.trimPrefix s.data.toList p.data.toList).toArray⟩,.bool (Lib.hasPrefix s.data.toList p.data.toList)])∧w'=w:=Any.strings_CutPrefix Tryz.lays103 s p w
def Tryz.lays283_ren:Go.Shelf.Ren:=⟨fun|283=>182|n=>n,fun|3=>3|9=>9|4=>4|n=>n,fun|n=>n⟩
def Tryz.lays283:Go.Proofs.Lays.n283 prog Tryz.lays283_ren:={
 mixed:=by kernel_rfl
 f283:=Tryz.func182.trans (congrArg some (by kernel_rfl))
 t3:=underlying3
 a3:=Tryz.isAgg3
 z3:=Tryz.sizeOf3
 v3:=Tryz.zeroValue3
 t4:=underlying4
 a4:=Tryz.isAgg4
 z4:=Tryz.sizeOf4
 v4:=Tryz.zeroValue4
 t9:=underlying9
 a9:=Tryz.isAgg9
 z9:=Tryz.sizeOf9
 v9:=Tryz.zeroValue9 }
open Go.Lib in
def Tryz.internal_strconv_small(i:Nat)(h:i<100)(w:World):
  Calls prog 182 #[.int .i64 i] w fun e w'=>e= .returned (.string ⟨(Lib.decDigits i).toArray⟩)∧w'=w:=Any.internal_strconv_small Tryz.lays283 i h w
def Tryz.laysM284_ren:Go.Shelf.Ren:=⟨fun|284=>183|129=>177|317=>202|318=>203|n=>n,fun|53=>143|3=>3|212=>244|0=>0|4=>4|46=>95|5=>5|9=>9|n=>n,fun|17=>0|n=>n⟩
def Tryz.laysM284:Go.Proofs.LaysM.n284 prog Tryz.laysM284_ren:={
 mixed:=by kernel_rfl
 f129:=Tryz.func177.trans (congrArg some (by kernel_rfl))
 f284:=Tryz.func183.trans (congrArg some (by kernel_rfl))
 f317:=Tryz.func202.trans (congrArg some (by kernel_rfl))
 f318:=Tryz.func203.trans (congrArg some (by kernel_rfl))
 t0:=underlying0
 a0:=Tryz.isAgg0
 z0:=Tryz.sizeOf0
 v0:=Tryz.zeroValue0
 t3:=underlying3
 a3:=Tryz.isAgg3
 z3:=Tryz.sizeOf3
 v3:=Tryz.zeroValue3
 t4:=underlying4
 a4:=Tryz.isAgg4
 z4:=Tryz.sizeOf4
 v4:=Tryz.zeroValue4
 t5:=underlying5
 a5:=Tryz.isAgg5
 z5:=Tryz.sizeOf5
 v5:=Tryz.zeroValue5
 t9:=underlying9
 a9:=Tryz.isAgg9
 z9:=Tryz.sizeOf9
 v9:=Tryz.zeroValue9
 t46:=underlying95
 a46:=Tryz.isAgg95
 z46:=Tryz.sizeOf95
 v46:=Tryz.zeroValue95
 t53:=underlying143
 a53:=Tryz.isAgg143
 z53:=Tryz.sizeOf143
 v53:=Tryz.zeroValue143
 t212:=underlying244
 a212:=Tryz.isAgg244
 z212:=Tryz.sizeOf244
 v212:=Tryz.zeroValue244
 g17:=by kernel_rfl
 i0:=by kernel_rfl
 i3:=by kernel_rfl
 i4:=by kernel_rfl
 i5:=by kernel_rfl
 i9:=by kernel_rfl
 i46:=by kernel_rfl
 i53:=by kernel_rfl
 i212:=by kernel_rfl
 m17:=by kernel_rfl }
open Go.Lib in
def Tryz.internal_strconv_numDigits(u:Nat)(a:1<=u)(b:u<18446744073709551616)(w:World)(c:Lib.TabIs prog w "internal/strconv.uint64pow10" .u64 Lib.pow10Tab):
  Calls prog 183 #[.int .u64 u] w fun e w'=>e= .returned (.int .i64 (Lib.nDigits u))∧w'=w:=Any.internal_strconv_numDigits Tryz.laysM284 u a b w c
def Tryz.lays285_ren:Go.Shelf.Ren:=⟨fun|285=>184|n=>n,fun|37=>137|53=>143|3=>3|4=>4|51=>140|9=>9|5=>5|0=>0|n=>n,fun|n=>n⟩
def Tryz.lays285:Go.Proofs.Lays.n285 prog Tryz.lays285_ren:={
 mixed:=by kernel_rfl
 f285:=Tryz.func184.trans (congrArg some (by kernel_rfl))
 t0:=underlying0
 a0:=Tryz.isAgg0
 z0:=Tryz.sizeOf0
 v0:=Tryz.zeroValue0
 t3:=underlying3
 a3:=Tryz.isAgg3
 z3:=Tryz.sizeOf3
 v3:=Tryz.zeroValue3
 t4:=underlying4
 a4:=Tryz.isAgg4
 z4:=Tryz.sizeOf4
 v4:=Tryz.zeroValue4
 t5:=underlying5
 a5:=Tryz.isAgg5
 z5:=Tryz.sizeOf5
 v5:=Tryz.zeroValue5
 t9:=underlying9
 a9:=Tryz.isAgg9
 z9:=Tryz.sizeOf9
 v9:=Tryz.zeroValue9
 t37:=underlying137
 a37:=Tryz.isAgg137
 z37:=Tryz.sizeOf137
 v37:=Tryz.zeroValue137
 t51:=underlying140
 a51:=Tryz.isAgg140
 z51:=Tryz.sizeOf140
 v51:=Tryz.zeroValue140
 t53:=underlying143
 a53:=Tryz.isAgg143
 z53:=Tryz.sizeOf143
 v53:=Tryz.zeroValue143 }
open Go.RowKit Go.Sort Go.Lib in
def Tryz.internal_strconv_formatBase10(a off cap:Nat)(u:Nat)(d:Array UInt8)(w:World)(f:Holds (fun (b:UInt8)=>Value.int .u8 (b.toNat:Int)) w a off d)(h:u<10^d.size)(i:u<18446744073709551616)(g:d.size<4611686018427387904):
  Calls prog 184 #[.slice (some ⟨a,off,none⟩) d.size cap,.int .u64 u] w fun e w'=>
   e= .returned (.tuple #[])∧∃(n j:Nat) (c:Array UInt8),w'=(putRow (fun (b:UInt8)=>Value.int .u8 (b.toNat:Int)) w a off c).drewN n∧FmtInv d.size u 0 j c:=Any.internal_strconv_formatBase10 Tryz.lays285 a off cap u d w f h i g
def Tryz.laysM173_ren:Go.Shelf.Ren:=⟨fun|173=>126|246=>157|283=>182|284=>183|285=>184|286=>185|129=>177|317=>202|318=>203|319=>204|320=>205|337=>216|338=>194|n=>n,fun|2=>2|3=>3|9=>9|4=>4|171=>229|0=>0|53=>143|37=>137|5=>5|173=>231|212=>244|51=>140|20=>20|213=>245|46=>95|232=>258|233=>252|n=>n,fun|17=>0|18=>4|19=>1|n=>n⟩
def Tryz.laysM173:Go.Proofs.LaysM.n173 prog Tryz.laysM173_ren:={
 mixed:=by kernel_rfl
 f129:=Tryz.func177.trans (congrArg some (by kernel_rfl))
 f173:=Tryz.func126.trans (congrArg some (by kernel_rfl))
 f246:=Tryz.func157.trans (congrArg some (by kernel_rfl))
 f283:=Tryz.func182.trans (congrArg some (by kernel_rfl))
 f284:=Tryz.func183.trans (congrArg some (by kernel_rfl))
 f285:=Tryz.func184.trans (congrArg some (by kernel_rfl))
 f286:=Tryz.func185.trans (congrArg some (by kernel_rfl))
 f317:=Tryz.func202.trans (congrArg some (by kernel_rfl))
 f318:=Tryz.func203.trans (congrArg some (by kernel_rfl))
 f319:=Tryz.func204.trans (congrArg some (by kernel_rfl))
 f320:=Tryz.func205.trans (congrArg some (by kernel_rfl))
 f337:=Tryz.func216.trans (congrArg some (by kernel_rfl))
 f338:=Tryz.func194.trans (congrArg some (by kernel_rfl))
 t0:=underlying0
 a0:=Tryz.isAgg0
 z0:=Tryz.sizeOf0
 v0:=Tryz.zeroValue0
 t2:=underlying2
 a2:=Tryz.isAgg2
 z2:=Tryz.sizeOf2
 v2:=Tryz.zeroValue2
 t3:=underlying3
 a3:=Tryz.isAgg3
 z3:=Tryz.sizeOf3
 v3:=Tryz.zeroValue3
 t4:=underlying4
 a4:=Tryz.isAgg4
 z4:=Tryz.sizeOf4
 v4:=Tryz.zeroValue4
 t5:=underlying5
 a5:=Tryz.isAgg5
 z5:=Tryz.sizeOf5
 v5:=Tryz.zeroValue5
 t9:=underlying9
 a9:=Tryz.isAgg9
 z9:=Tryz.sizeOf9
 v9:=Tryz.zeroValue9
 t20:=underlying20
 a20:=Tryz.isAgg20
 z20:=Tryz.sizeOf20
 v20:=Tryz.zeroValue20
 t37:=underlying137
 a37:=Tryz.isAgg137
 z37:=Tryz.sizeOf137
 v37:=Tryz.zeroValue137
 t46:=underlying95
 a46:=Tryz.isAgg95
 z46:=Tryz.sizeOf95
 v46:=Tryz.zeroValue95
 t51:=underlying140
 a51:=Tryz.isAgg140
 z51:=Tryz.sizeOf140
 v51:=Tryz.zeroValue140
 t53:=underlying143
 a53:=Tryz.isAgg143
 z53:=Tryz.sizeOf143
 v53:=Tryz.zeroValue143
 t171:=underlying229
 a171:=Tryz.isAgg229
 z171:=Tryz.sizeOf229
 v171:=Tryz.zeroValue229
 t173:=underlying231
 a173:=Tryz.isAgg231
 z173:=Tryz.sizeOf231
 v173:=Tryz.zeroValue231
 t212:=underlying244
 a212:=Tryz.isAgg244
 z212:=Tryz.sizeOf244
 v212:=Tryz.zeroValue244
 t213:=underlying245
 a213:=Tryz.isAgg245
 z213:=Tryz.sizeOf245
 t232:=underlying258
 a232:=Tryz.isAgg258
 z232:=Tryz.sizeOf258
 v232:=Tryz.zeroValue258
 t233:=underlying252
 a233:=Tryz.isAgg252
 z233:=Tryz.sizeOf252
 v233:=Tryz.zeroValue252
 g17:=by kernel_rfl
 g18:=by kernel_rfl
 g19:=by kernel_rfl
 i0:=by kernel_rfl
 i2:=by kernel_rfl
 i3:=by kernel_rfl
 i4:=by kernel_rfl
 i5:=by kernel_rfl
 i9:=by kernel_rfl
 i20:=by kernel_rfl
 i37:=by kernel_rfl
 i46:=by kernel_rfl
 i51:=by kernel_rfl
 i53:=by kernel_rfl
 i171:=by kernel_rfl
 i173:=by kernel_rfl
 i212:=by kernel_rfl
 i232:=by kernel_rfl
 i233:=by kernel_rfl
 m17:=by kernel_rfl
 m18:=by kernel_rfl
 m19:=by kernel_rfl }
open Go.RowKit Go.Sort Go.Lib in
def Tryz.strconv_FormatInt_10(n:Int)(a: -9223372036854775808<=n)(b:n<=9223372036854775807)(w:World)(c:Lib.TabIs prog w "internal/strconv.uint64pow10" .u64 Lib.pow10Tab):
  Calls prog 126 #[.int .i64 n,.int .i64 10] w fun e w'=>e= .returned (.string ⟨(Lib.itoa n).toArray⟩)∧∃k os,w'=grow (w.drewN k) os:=Any.strconv_FormatInt_10 Tryz.laysM173 n a b w c
def Tryz.lays264_ren:Go.Shelf.Ren:=⟨fun|264=>90|n=>n,fun|53=>143|46=>95|n=>n,fun|n=>n⟩
def Tryz.lays264:Go.Proofs.Lays.n264 prog Tryz.lays264_ren:={
 mixed:=by kernel_rfl
 f264:=Tryz.func90.trans (congrArg some (by kernel_rfl))
 t46:=underlying95
 a46:=Tryz.isAgg95
 z46:=Tryz.sizeOf95
 v46:=Tryz.zeroValue95
 t53:=underlying143
 a53:=Tryz.isAgg143
 z53:=Tryz.sizeOf143
 v53:=Tryz.zeroValue143 }
open Go.RowKit Go.Lib in
def Tryz.bits_Mul64(x y:Nat)(a:x<18446744073709551616)(b:y<18446744073709551616)(w:World):
  Calls prog 90 #[.int .u64 x,.int .u64 y] w fun e w'=>e= .returned (.tuple #[.int .u64 ((x*y/18446744073709551616:Nat):Int),.int .u64 ((x*y%18446744073709551616:Nat):Int)])∧w'=w:=Any.bits_Mul64 Tryz.lays264 x y a b w
def Tryz.lays212_ren:Go.Shelf.Ren:=⟨fun|212=>40|263=>89|264=>90|n=>n,fun|46=>95|51=>140|146=>141|53=>143|148=>144|n=>n,fun|n=>n⟩
def Tryz.lays212:Go.Proofs.Lays.n212 prog Tryz.lays212_ren:={
 mixed:=by kernel_rfl
 f212:=Tryz.func40.trans (congrArg some (by kernel_rfl))
 f263:=Tryz.func89.trans (congrArg some (by kernel_rfl))
 f264:=Tryz.func90.trans (congrArg some (by kernel_rfl))
 t46:=underlying95
 a46:=Tryz.isAgg95
 z46:=Tryz.sizeOf95
 v46:=Tryz.zeroValue95
 t51:=underlying140
 a51:=Tryz.isAgg140
 z51:=Tryz.sizeOf140
 v51:=Tryz.zeroValue140
 t53:=underlying143
 a53:=Tryz.isAgg143
 z53:=Tryz.sizeOf143
 v53:=Tryz.zeroValue143
 t146:=underlying141
 a146:=Tryz.isAgg141
 z146:=Tryz.sizeOf141
 v146:=Tryz.zeroValue141
 t148:=underlying144
 a148:=Tryz.isAgg144
 z148:=Tryz.sizeOf144
 v148:=Tryz.zeroValue144 }
open Go.RowKit Go.Lib in
def Tryz.bits_Mul(x y:Nat)(a:x<18446744073709551616)(b:y<18446744073709551616)(w:World):
  Calls prog 40 #[.int .u64 x,.int .u64 y] w fun e w'=>e= .returned (.tuple #[.int .u64 ((x*y/18446744073709551616:Nat):Int),.int .u64 ((x*y%18446744073709551616:Nat):Int)])∧w'=w:=Any.bits_Mul Tryz.lays212 x y a b w
def Tryz.lays7n29_ren:Go.Shelf.Ren:=⟨fun|29=>194|n=>n,fun|22=>143|3=>3|4=>4|25=>95|54=>252|0=>0|5=>5|n=>n,fun|1=>1|n=>n⟩
def Tryz.lays7n29:Go.Proofs.Lays7.n29 prog Tryz.lays7n29_ren:={
 mixed:=by kernel_rfl
 f29:=Tryz.func194.trans (congrArg some (by kernel_rfl))
 t0:=underlying0
 a0:=Tryz.isAgg0
 z0:=Tryz.sizeOf0
 v0:=Tryz.zeroValue0
 i0:=by kernel_rfl
 t3:=underlying3
 a3:=Tryz.isAgg3
 z3:=Tryz.sizeOf3
 v3:=Tryz.zeroValue3
 i3:=by kernel_rfl
 t4:=underlying4
 a4:=Tryz.isAgg4
 z4:=Tryz.sizeOf4
 v4:=Tryz.zeroValue4
 i4:=by kernel_rfl
 t5:=underlying5
 a5:=Tryz.isAgg5
 z5:=Tryz.sizeOf5
 v5:=Tryz.zeroValue5
 i5:=by kernel_rfl
 t22:=underlying143
 a22:=Tryz.isAgg143
 z22:=Tryz.sizeOf143
 v22:=Tryz.zeroValue143
 i22:=by kernel_rfl
 t25:=underlying95
 a25:=Tryz.isAgg95
 z25:=Tryz.sizeOf95
 v25:=Tryz.zeroValue95
 i25:=by kernel_rfl
 t54:=underlying252
 a54:=Tryz.isAgg252
 z54:=Tryz.sizeOf252
 g1:=by kernel_rfl }
end Go.Proofs
namespace Go.Proofs.YtmiaanioldpfgaaGreatDoor
open Go.RowKit Sos Tryz
variable{H L T a c d m s t u x y z:Int}{g k n:Nat}{ts xs zs:List Int}{b f:World}
def Split(t s c:Int):Prop:=s+aA*c=t∧0<=s∧s<aA
def iT(t:Int):∃s c,Split t s c:=⟨g8 t,gY t,AO t,(G5 t).1,(G5 t).2⟩
def Split.lo(h:Split t s c):g8 t=s:=by
 obtain⟨a,b,d⟩:=h;unfold g8;unfold aA at *;omega
def Split.hi(h:Split t s c):gY t=c:=by
 obtain⟨a,b,d⟩:=h;unfold gY;unfold aA at *;omega
def Split.hi_bd(h:Split t s c)(a:0<=t)(b:t<aA*m):0<=c∧c<m:=by
 rw[<-h.hi];exact sS a b
def rO(x y s k:Int)(a:0<=x∧x<aA)(b:0<=y∧y<aA)(h:Split (x+y) s k)(w:World):
  (callFunc 154 #[.int .u64 x,.int .u64 y,.int .u64 0]).run prog w= .ok (.value (.tuple #[.int .u64 s,.int .u64 k])) w:=by
 rw[PL x y a.1 b.1 a.2 b.2,h.lo,h.hi]
def Diff(t u d k:Int):Prop:=d=t-u+aA*k∧0<=d∧d<aA∧(k=0∨k=1)
def sV(a:0<=t)(b:t<aA)(c:0<=u)(e:u<=aA):∃d k,Diff t u d k:=
 ⟨g8 (t-u),jC t u,AQ a b c e,(G5 _).1,(G5 _).2,by unfold jC;split<;>simp⟩
def Diff.lo{k:Int}(h:Diff t u d k)(f:0<=t)(g:t<aA)(i:0<=u)(j:u<=aA):g8 (t-u)=d:=by
 obtain⟨a,b,c,e⟩:=h;rw[AQ f g i j,a];unfold jC;unfold aA at *;split<;>omega
def Diff.bo{k:Int}(h:Diff t u d k)(f:0<=t)(g:t<aA)(i:0<=u)(j:u<=aA):jC t u=k:=by
 obtain⟨a,b,c,e⟩:=h;unfold jC;unfold aA at *;split<;>omega
def eqC(x y c d k:Int)(a:0<=x∧x<aA)(e:0<=y∧y<aA)(b:0<=c∧c<=1)(h:Diff x (y+c) d k)(w:World):
  (callFunc 181 #[.int .u64 x,.int .u64 y,.int .u64 c]).run prog w= .ok (.value (.tuple #[.int .u64 d,.int .u64 k])) w:=by
 rw[eqB x y c a.1 e.1 b.1 b.2 a.2 e.2,show x-y-c=x-(y+c) by omega,h.lo a.1 a.2 (by omega) (by omega),h.bo a.1 a.2 (by omega) (by omega)]
def Q4(x y d k:Int)(a:0<=x∧x<aA)(b:0<=y∧y<aA)(h:Diff x y d k)(w:World):
  (callFunc 181 #[.int .u64 x,.int .u64 y,.int .u64 0]).run prog w= .ok (.value (.tuple #[.int .u64 d,.int .u64 k])) w:=by
 rw[PN x y a.1 b.1 a.2 b.2,h.lo a.1 a.2 (by omega) (by omega),h.bo a.1 a.2 (by omega) (by omega)]
def oG(x y s k:Int)(b:0<=x∧x<aA)(c:0<=y∧y<aA)(h:Split (x*y) s k)(w:World):
  Calls prog 90 #[.int .u64 x,.int .u64 y] w fun e w'=>e= .returned (.tuple #[.int .u64 k,.int .u64 s])∧w=w':=by
 rw[<-h.lo,<-h.hi];unfold g8 gY;unfold aA at b c;obtain⟨x,rfl⟩:=j7 b.1;obtain⟨y,rfl⟩:=j7 c.1;refine(Tryz.bits_Mul64 x y (by omega) (by omega) w).mono fun e w' a=>⟨?_,a.2.symm⟩;rw[a.1,<-az8];rfl
def mM{n:Int}(b:0<=x)(c:x<=m)(a:0<=y)(d:y<=n):0<=x*y∧x*y<=m*n:=
 ⟨gB b a,Int.mul_le_mul c d a (by omega)⟩
def I7(a:0<=x∧x<aA)(b:0<=y∧y<aA)(d:0<=c∧c<aA)(f:0<=z∧z<aA):0<=z+x*y+c∧z+x*y+c<aA*aA:=by
 have:=mM a.1 (show x<=aA-1 by omega) b.1 (show y<=aA-1 by omega);have e:(aA-1)*(aA-1)=aA*aA-2*aA+1:=by rfl
 omega
def fqB{C1 C2:Int}(j:k<zs.length)(l:k<xs.length)(f:Split (xs.getD k 0*y) L H)(g:Split (L+c) d C1)(i:Split (zs.getD k 0+d) a C2)
  (h:aF aA zs+c*aA^k=T+aF aA (xs.take k)*y):
  aF aA (zs.set k a)+(H+C1+C2)*aA^(k+1)=T+aF aA (xs.take (k+1))*y:=by
 have m:=f.1;have n:=g.1;have o:=i.1;rw[nY _ _ _ _ j,jV _ _ _ l,gR];generalize zs.getD k 0=z at *;generalize xs.getD k 0=x at *;generalize aA^k=p at *;generalize aF aA zs=s at *;generalize aF aA (xs.take k)=u at *;generalize aA=b at *;have e:a+b*(H+C1+C2)=z+x*y+c:=by grind
 have q:p*(a+b*(H+C1+C2))=p*(z+x*y+c):=by rw[e]
 grind
def PW{C1 C2 h:Int}(f:0<=x∧x<aA)(g:0<=y∧y<aA)(i:0<=c∧c<aA)(j:0<=z∧z<aA)(b:Split (x*y) L H)(d:Split (L+c) a C1)(e:Split (z+a) h C2):
  0<=H∧H<aA∧0<=C1∧C1<=1∧0<=C2∧C2<=1∧H+C1<aA∧H+C1+C2<aA:=by
 have t:=I7 f g i j;have o:=b.1;have q:=d.1;have r:=e.1;have k:=b.2;have l:=d.2;have n:=e.2
 have m:=mM f.1 (show x<=aA-1 by omega) g.1 (show y<=aA-1 by omega);generalize x*y=p at *;have u:aA*aA=aA*18446744073709551616:=rfl;have s:(aA-1)*(aA-1)=aA*aA-2*aA+1:=by rfl
 unfold aA at *;omega
def G0(g off:Nat)(zs:List Int)(cz:Nat)(A:Option Addr)(xs:List Int)(Z n:Nat)(y:Int)(w:World)(P:zs.length=n)(M:xs.length=n)
  (hz:Cells .u64 w g off zs)(ac:Soft w g)(hb:n*8<=281474976710656)(hx:Rd .u64 w A xs)
  (v:∀b o,A=some ⟨b,o,none⟩->0<n->b≠g)(hZ:InR aA zs)(hX:InR aA xs)(N:0<=y∧y<aA):
  Calls prog 116 #[.slice (some ⟨g,off,none⟩) n cz,.slice A n Z,.int .u64 y] w fun e w'=>
   ∃ts c,e= .returned (.int .u64 c)∧0<=c∧c<aA∧ts.length=n∧InR aA ts∧aF aA ts+c*aA^n=aF aA zs+aF aA xs*y∧Cells .u64 w' g off ts∧Only g off n w w':=by
 have Y:=aB P;have a:=aB M;clear P M;go_enter func116,ntmps116;go_wp2
 go_loopw [7,16] (fun t i wr=>∃(k:Nat) (ts:List Int) (c:Int),k<=n∧i= .int .i64 k∧t= .int .u64 c∧0<=c∧c<aA∧Hid (ts.length=n)∧InR aA ts∧
   Hid (aF aA ts+c*aA^k=aF aA zs+aF aA (xs.take k)*y)∧Cells .u64 wr g off ts∧Only g off n w wr) (fun _ i _=>n-(intOf i).toNat)
 case atStart=>exact⟨0,zs,0,dC _,rfl,rfl,by decide,by decide,Y,hZ,by simp[Hid],hz,Only.refl _ _ _ _⟩
 case round=>
  obtain⟨k,ts,c,hk,rfl,rfl,s,u,m,B,I,p,d⟩:=hrel;by_cases af:k<n
  ·obtain⟨b,o,rfl,ae,J⟩:=(d.rd hx (fun b o e h=>v b o e (by have:=a.out;omega))).at_ (by have:=a.out;omega);have r:=J k (by have:=a.out;omega);have h2:=p k (by have:=m.out;omega);have hf:=(d.soft ac).free (off+k);have D:=B.getD aQ k;have E:=hX.getD aQ k;have R:=aB p;have HN:=aB v;have S:=aB d;obtain⟨L,H,f⟩:=iT (xs.getD k 0*y);obtain⟨q,C1,j⟩:=iT (L+c);obtain⟨C,C2,l⟩:=iT (ts.getD k 0+q);have G:=fqB (T:=aF aA zs) (show k<ts.length by have:=m.out;omega) (show k<xs.length by have:=a.out;omega) f j l I.out;have ab:=PW E N ⟨s,u⟩ D f j l;generalize K:xs.getD k 0=x at *;generalize O:ts.getD k 0=z at *;have HX:=aB K;have ad:=aB O;have U:=aB G;have V:=aB f;have W:=aB j;have X:=aB l;have d1:=f.2;have d2:=j.2;have F:=l.2
   obtain⟨q0,q1,q2,q3,q4,q5,q6,Q⟩:=ab;have q8:H+C1<=18446744073709551615:=by unfold aA at q6;omega
   have q9:H+C1+C2<=18446744073709551615:=by unfold aA at Q;omega
   clear p J v d K O G f j l
   go_wp2_with (first
    |(go_at_call 90;refine(oG x y L H E N V.out _).mono ?_;rintro e w' ⟨rfl,rfl⟩)
    |simp only[rO L c q C1 d1 ⟨s,u⟩ W.out]
    |simp only[rO z q C C2 D d2 X.out])
   go_roundw
   case rel=>
    refine⟨k+1,ts.set k C,H+C1+C2,by omega,by go_num,rfl,by omega,Q,?_,B.set F.1 F.2 k,U,R.out.set (by have:=m.out;omega) _,S.out.set (by omega) _⟩;have:=m.out;simpa [Hid] using this
   case measure=>simp[intOf];omega
  ·obtain rfl:k=n:=by omega
   go_wp2;go_ret;refine⟨ts,c,rfl,s,u,m.out,B,?_,p,d⟩;have r:=I.out;rw[cZ (by have:=a.out;omega)] at r;exact r
def PY{C1 C2:Int}(j:k<zs.length)(l:k<xs.length)(f:Split (xs.getD k 0*y) L H)(g:Split (L+c) d C1)(i:Diff (zs.getD k 0) d a C2)
  (h:aF aA zs-c*aA^k=T-aF aA (xs.take k)*y):
  aF aA (zs.set k a)-(H+C1+C2)*aA^(k+1)=T-aF aA (xs.take (k+1))*y:=by
 have m:=f.1;have n:=g.1;have o:=i.1;rw[nY _ _ _ _ j,jV _ _ _ l,gR];generalize zs.getD k 0=z at *;generalize xs.getD k 0=x at *;generalize aA^k=p at *;generalize aF aA zs=s at *;generalize aF aA (xs.take k)=u at *;generalize aA=b at *;have e:a-b*(H+C1+C2)=z-x*y-c:=by grind
 have q:p*(a-b*(H+C1+C2))=p*(z-x*y-c):=by rw[e]
 grind
def PZ{C1 C2 f:Int}(g:0<=x∧x<aA)(h:0<=y∧y<aA)(r:0<=c∧c<aA)(s:0<=z∧z<aA)(b:Split (x*y) L H)(d:Split (L+c) a C1)(e:Diff z a f C2):
  0<=H∧H<aA∧0<=C1∧C1<=1∧0<=C2∧C2<=1∧H+C1<aA∧H+C1+C2<aA:=by
 have l:=b.1;have n:=d.1;have o:=e.1;have i:=b.2;have j:=d.2;have k:=e.2
 have m:=mM g.1 (show x<=aA-1 by omega) h.1 (show y<=aA-1 by omega);generalize x*y=p at *;have q:(aA-1)*(aA-1)=aA*18446744073709551616-2*aA+1:=by rfl
 unfold aA at *;omega
def Q3(g off:Nat)(zs:List Int)(cz:Nat)(A:Option Addr)(xs:List Int)(Z n:Nat)(y:Int)(w:World)(P:zs.length=n)(M:xs.length=n)
  (hz:Cells .u64 w g off zs)(ac:Soft w g)(hb:n*8<=281474976710656)(hx:Rd .u64 w A xs)
  (B:∀b o,A=some ⟨b,o,none⟩->0<n->b≠g)(hZ:InR aA zs)(hX:InR aA xs)(N:0<=y∧y<aA):
  Calls prog 214 #[.slice (some ⟨g,off,none⟩) n cz,.slice A n Z,.int .u64 y] w fun e w'=>
   ∃ts c,e= .returned (.int .u64 c)∧0<=c∧c<aA∧ts.length=n∧InR aA ts∧aF aA ts-c*aA^n=aF aA zs-aF aA xs*y∧Cells .u64 w' g off ts∧Only g off n w w':=by
 have Y:=aB P;have f:=aB M;clear P M;go_enter func214,ntmps214;go_wp2
 go_loopw [7,16] (fun t i wr=>∃(k:Nat) (ts:List Int) (c:Int),k<=n∧i= .int .i64 k∧t= .int .u64 c∧0<=c∧c<aA∧Hid (ts.length=n)∧InR aA ts∧
   Hid (aF aA ts-c*aA^k=aF aA zs-aF aA (xs.take k)*y)∧Cells .u64 wr g off ts∧Only g off n w wr) (fun _ i _=>n-(intOf i).toNat)
 case atStart=>exact⟨0,zs,0,dC _,rfl,rfl,by decide,by decide,Y,hZ,by simp[Hid],hz,Only.refl _ _ _ _⟩
 case round=>
  obtain⟨k,ts,c,hk,rfl,rfl,u,v,m,C,I,r,j⟩:=hrel;by_cases af:k<n
  ·obtain⟨b,o,rfl,ae,J⟩:=(j.rd hx (fun b o e h=>B b o e (by have:=f.out;omega))).at_ (by have:=f.out;omega);have s:=J k (by have:=f.out;omega);have h2:=r k (by have:=m.out;omega);have hf:=(j.soft ac).free (off+k);have q:=C.getD aQ k;have E:=hX.getD aQ k;have R:=aB r;have HN:=aB B;have S:=aB j;obtain⟨L,H,l⟩:=iT (xs.getD k 0*y);obtain⟨D,C1,a⟩:=iT (L+c);obtain⟨p,C2,d⟩:=sV q.1 q.2 a.2.1 (fP a.2.2);have G:=PY (T:=aF aA zs) (show k<ts.length by have:=m.out;omega) (show k<xs.length by have:=f.out;omega) l a d I.out;have ab:=PZ E N ⟨u,v⟩ q l a d;generalize K:xs.getD k 0=x at *;generalize O:ts.getD k 0=z at *;have HX:=aB K;have ad:=aB O;have U:=aB G;have V:=aB l;have W:=aB a;have X:=aB d;have d1:=l.2;have d2:=a.2;have F:0<=p∧p<aA:=⟨d.2.1,d.2.2.1⟩
   obtain⟨q0,q1,q2,q3,q4,q5,q6,Q⟩:=ab;have q8:H+C1<=18446744073709551615:=by unfold aA at q6;omega
   have q9:H+C1+C2<=18446744073709551615:=by unfold aA at Q;omega
   clear r J B j K O G l a d
   go_wp2_with (first
    |(go_at_call 90;refine(oG x y L H E N V.out _).mono ?_;rintro e w' ⟨rfl,rfl⟩)
    |simp only[rO L c D C1 d1 ⟨u,v⟩ W.out]
    |simp only[Q4 z D p C2 q d2 X.out])
   go_roundw
   case rel=>
    refine⟨k+1,ts.set k p,H+C1+C2,by omega,by go_num,rfl,by omega,Q,?_,C.set F.1 F.2 k,U,R.out.set (by have:=m.out;omega) _,S.out.set (by omega) _⟩;have:=m.out;simpa [Hid] using this
   case measure=>simp[intOf];omega
  ·obtain rfl:k=n:=by omega
   go_wp2;go_ret;refine⟨ts,c,rfl,u,v,m.out,C,?_,r,j⟩;have s:=I.out;rw[cZ (by have:=f.out;omega)] at s;exact s
def qJ(n k:Nat):aF aA ((dg n).take k)=(n%BN^k:Nat):=by
 rcases dE k (nl n) with a|a
 ·have h:=gF aA (dg n) k (by rw[aK];omega);rw[cU] at h;have c:=y9 aQ ((cI n).take k);have b:=iO aQ ((cI n).take k);rw[bK,aK,y8 (by omega)] at b;rw[bx8,iX,h,bzJ,bz1 c b]
 ·rw[cZ (by rw[aK];exact a),cU,jJ];exact aZ (cyD n) (fT (by decide) a)
def sU(n k:Nat):aF aA ((dg n).drop k)=(n/BN^k:Nat):=by
 rcases dE k (nl n) with a|a
 ·have h:=gF aA (dg n) k (by rw[aK];omega);rw[cU] at h;have c:=y9 aQ ((cI n).take k);have b:=iO aQ ((cI n).take k);rw[bK,aK,y8 (by omega)] at b;have d:=nW aQ k;rw[azR,iX,h,Int.add_mul_ediv_left _ _ (by omega),byG c b,bxA]
 ·rw[gO (by rw[aK];exact a),azT]
  ·rfl
  ·exact aZ (cyD n) (fT (by decide) a)
def PP(h:kH zs)(k:Nat):kH (zs.drop k):=by
 unfold kH at *;rw[List.getLast?_drop];split
 ·simp
 ·exact h
def rM(n k:Nat):(dg n).drop k=dg (n/BN^k):=vW ⟨(cI n).drop k,PP (vV n).2 k⟩ (sU n k)
def PR(n k:Nat):trimL ((dg n).take k)=dg (n%BN^k):=oE ((cI n).take k) (qJ n k)
def S4(n k:Nat):nl (n/BN^k)=nl n-k:=by rw[<-aK,<-rM,gG,aK]
def qK(n k:Nat):nl (n%BN^k)<=min k (nl n):=by
 rw[<-aK,<-PR];have:=oF ((dg n).take k);rw[bK,aK] at this;exact this
def PS(p s b:Nat)(j:0<b):
  p*s=(p%b)*(s%b)+b*((p%b+p/b)*(s%b+s/b)-(p%b)*(s%b)-(p/b)*(s/b))+b*b*((p/b)*(s/b))∧
   (p%b)*(s%b)<=(p%b+p/b)*(s%b+s/b)∧(p/b)*(s/b)<=(p%b+p/b)*(s%b+s/b)-(p%b)*(s%b):=by
 have f:=bxO p b;have g:=bxO s b;generalize p%b=a at *;generalize p/b=c at *;generalize s%b=d at *;generalize s/b=e at *;have i:(a+c)*(d+e)=a*d+c*e+(a*e+c*d):=by grind
 have h:(a+c)*(d+e)-a*d-c*e=a*e+c*d:=by omega
 rw[h];refine⟨?_,by omega,by omega⟩;rw[<-f,<-g];grind
def FZ{z:Int}(zs:List Int)(d:InR aA zs)(b:k<=zs.length)(hn:zs.length=n)(hv:aF aA zs+aA^k*m=t)(c:t<aA^n):aF aA (zs.drop k)+m<aA^(n-k):=by
 rw[gF aA zs k b] at hv;have f:=y9 aQ (d.take k);have g:=nW aQ k;have e:aA^n=aA^k*aA^(n-k):=by rw[<-aqS];congr 1;omega
 rw[e] at c;have a:aA^k*(aF aA (zs.drop k)+m)<aA^k*aA^(n-k):=by rw[bx6];omega
 exact bzL a (by omega)
def patch(zs ts:List Int)(k:Nat):List Int:=zs.take k++(ts++zs.drop (k+ts.length))
def RB(h:k+ts.length<=zs.length):(patch zs ts k).length=zs.length:=by simp[patch];omega
def qL{b:Int}(a:InR b zs)(c:InR b ts)(k:Nat):InR b (patch zs ts k):=(a.take k).append (c.append (a.drop _))
def AR{j:Nat}(h:k+ts.length<=zs.length)(b:k+ts.length<=j):(patch zs ts k).getD j 0=zs.getD j 0:=by
 unfold patch;have a:(zs.take k).length=k:=by rw[bK];omega
 simp only[eF];rw[fK (by omega),a,fK (by omega),aqM];congr 2;omega
def rN(h:k+ts.length<=zs.length):aF aA (patch zs ts k)=aF aA zs+aA^k*(aF aA ts-aF aA ((zs.drop k).take ts.length)):=by
 unfold patch;have a:(zs.take k).length=k:=by rw[bK];omega
 rw[kV,kV,a,gF aA zs k (by omega),gF aA (zs.drop k) ts.length (by rw[gG];omega),List.drop_drop];grind
def Only.patch{m:Nat}(e:Only g k m f b)(c:Cells .u64 f g 0 zs)(j:ts.length=m)(h:Cells .u64 b g k ts)(l:k+m<=zs.length):
  Cells .u64 b g 0 (patch zs ts k):=by
 subst j;have d:(zs.take k).length=k:=by rw[bK];omega
 refine Cells.append (fun i a=> ?_) (Cells.append (by rw[d,bA];exact h) (fun i a=> ?_))
 ·rw[e.rest (0+i) (.inl (by omega))];exact c.take k i a
 ·rw[d,bA,e.rest _ (.inr (by omega))];have:=c.drop (k+ts.length) i a;rwa [bA] at this
def PT{m:Nat}{P:Int}(f:zs.length=n)(b:k+m<n)(d:ts.length=m)(g:aF aA ts+c*aA^m=aF aA ((zs.drop k).take m)+P*y)(a:zs.getD (k+m) 0=0):
  aF aA ((patch zs ts k).set (k+m) c)=aF aA zs+aA^k*(P*y):=by
 subst f d;rw[nY _ _ _ _ (by rw[RB (by omega)];exact b),rN (by omega),AR (by omega) aE,a];have e:aA^(k+ts.length)=aA^k*aA^ts.length:=aqS _ _ _;rw[e];grind
def AS(n:Nat)(ys:List Int)(h:ys.length<=n):cV (List.replicate n 0) ys=ys++List.replicate (n-ys.length) 0:=by
 unfold cV;rw[dB,cZ h,bxL]
def PU{lo hi h:Nat}(f:nl lo<=2*h)(k:2*h<=n)(l:nl hi<=n-2*h):
  let zs:=cV (List.replicate n 0) (dg lo)
  let us:=cV (zs.drop (2*h)) (dg hi)
  us.length=n-2*h∧InR aA us∧InR aA zs∧zs.length=n∧aF aA (patch zs us (2*h))=lo+aA^(2*h)*hi:=by
 intro zs us;have e:zs=dg lo++List.replicate (n-nl lo) 0:=AS n (dg lo) (by rw[aK];omega);have a:zs.drop (2*h)=List.replicate (n-2*h) 0:=by
  rw[e,List.drop_append,gO (by rw[aK];exact f),aK,iM,bxL];congr 1;omega
 have c:zs.length=n:=by show(cV _ _).length=n;rw[lN,dB]
 have d:us.length=n-2*h:=by show(cV _ _).length=_;rw[lN,gG,c]
 have b:InR aA zs:=(cI lo).take _ |>.append ((InR.replicate aQ _).drop _);have g:InR aA us:=((cI hi).take _).append ((b.drop _).drop _);refine⟨d,g,b,c,?_⟩;have i:aF aA zs=lo:=by show aF aA (cV _ _)=_;rw[mN _ _ (by rw[aK];omega),cU]
 have j:aF aA us=hi:=by
  show aF aA (cV (zs.drop (2*h)) (dg hi))=_
  rw[a,mN _ _ (by rw[aK];omega),cU]
 rw[rN (by omega),d,a,i,j];rw[cZ (by simp),mL];simp
def aJ:Nat:=17592186044416
def MulOK(N:Nat):Prop:=∀(x y:Nat) (a b:Value) (w:World),nl x+nl y<N->nl x+nl y<=aJ->NatAt w a x->NatAt w b y->Calls prog 69 #[a,b] w (jK w [a,b] (x*y))
def dzD(x s e:Nat)(h:s<=e):x%BN^e=x%BN^s+BN^s*(x/BN^s%BN^(e-s)):=by
 have a:BN^e=BN^s*BN^(e-s):=by rw[<-KF];congr 1;omega
 rw[a,Nat.mod_mul]
def Only.join{a:World}(f:Only g k (n-k) b a)(c:Cells .u64 b g 0 zs)(l:zs.length=n)(j:k<=n)(h:Cells .u64 a g k ts):
  Cells .u64 a g 0 (zs.take k++ts):=by
 have e:(zs.take k).length=k:=by rw[bK];omega
 refine Cells.append (fun i d=> ?_) (by rw[e,bA];exact h);rw[f.rest (0+i) (.inl (by omega))];exact c.take k i d
def QG(x y k e:Nat)(b:e=k+nl y∨e=nl x)(a:e<=k+nl y):x%BN^(k+nl y)=x%BN^e:=by
 rcases b with rfl|rfl
 ·rfl
 ·rw[jJ (cyD x),jJ (aZ (cyD x) (fT (by decide) a))]
def QH(x y:Nat)(v C:Value)(w:World)(hx:NatAt w v x)(hy:NatAt w C y)(h0:0<nl y)(am:nl x+nl y<=aJ)(bh:nl y<=nl x)(ih:MulOK (2*nl y+1)):
  Calls prog 117 #[v,C] w (jK w [v,C] (x*y)):=by
 unfold aJ at am;obtain⟨A,c,rfl,hc,av,bc⟩:=hx;obtain⟨B,d,rfl,hd,aw,I⟩:=hy;obtain⟨p,u,rfl,r,ah⟩:=av.at_ (by rw[aK];omega);obtain⟨n,a9,ba,U⟩:∃n,nl x+nl y<=n∧n<=nl x+nl y∧Hid (nl x+nl y=n):=⟨_,aE,aE,rfl⟩;go_enter func117,ntmps117;go_wp2_with (at_make;refine kG rfl rfl .u64 143 8 underlying75 gZ (n) rfl rfl (by omega) (by omega) (by omega) (by omega) ?_;intro w1 az ax ad ab)
 go_loopw [6] (fun i wr=>∃(k:Nat) (a:List Int),k<=n∧i= .int .i64 k∧Hid (a.length=n)∧InR aA a∧Hid (aF aA a=((x%BN^k*y:Nat):Int))∧Cells .u64 wr w.1.size 0 a∧
   Soft wr w.1.size∧Below w.1.size w wr∧w.1.size<wr.1.size) (fun i _=>n-(intOf i).toNat)
 case atStart=>exact⟨0,_,dC _,rfl,by simp[Hid],InR.replicate aQ _,by simp[Hid,mL,Nat.mod_one],ad,ax,ab,az⟩
 case round=>
  obtain⟨k,a,hk,rfl,h,l,O,m,ay,f,b⟩:=hrel;by_cases a6:k<nl x
  ·obtain⟨e,a3,a4,ai,aj,a7⟩:∃e:Nat,k<e∧e<=nl x∧e<=k+nl y∧Hid (e=k+nl y∨e=nl x)∧min ((k:Int)+nl y) (nl x)=(e:Int):=by
    by_cases a5:k+nl y<=nl x
    ·exact⟨k+nl y,by omega,by omega,by omega,.inl rfl,by omega⟩
    ·exact⟨nl x,by omega,by omega,by omega,.inr rfl,by omega⟩
   have F:(((dg x).drop k).take (e-k)).length=e-k:=by rw[bK,gG,aK];omega
   have K:Rd .u64 wr.drew (some ⟨p,u+k,none⟩) (((dg x).drop k).take (e-k)):=Rd.mk (aZ r f.size) (((ah.be f r).drop k).take (e-k));have al:InR aA (((dg x).drop k).take (e-k)):=((cI x).drop k).take (e-k)
   have ao:NatAt wr.drew (.slice (some ⟨p,u+k,none⟩) (trimL (((dg x).drop k).take (e-k))).length (c-k)) (x/BN^k%BN^(e-k)):=
    NatAt.trim K al (by rw[rM,qJ]) (by omega) (Old.mk (aZ r f.size))
   have aq:(Value.slice (some ⟨p,u+k,none⟩) (trimL (((dg x).drop k).take (e-k))).length (c-k)).ownBlock≠some w.1.size:=by simp[Value.ownBlock];omega
   have af:Cells .u64 wr.drew w.1.size k (a.drop k):=by have:=m.drop k;rwa [bA] at this
   have L:Soft wr.drew w.1.size:=ay;have G:Below w.1.size w wr.drew:=f.drew;have ag:Cells .u64 wr.drew w.1.size 0 a:=m;have ap:NatAt wr.drew (.slice B (nl y) d) y:=⟨B,d,rfl,hd,Rd.drew (aw.be f),I.mono f.size⟩;have bf:=qK (x/BN^k) (e-k);have s:=dzD x k e (by omega);generalize J:x/BN^k%BN^(e-k)=q at *;generalize N:((dg x).drop k).take (e-k)=us at *;have a8:=fI q y;have T:=aB F;have a1:=aB s;have HQ:=aB J;have HU:=aB N;have P:(a.drop k).length=n-k:=by rw[gG,h.out]
   have Y:=aB P;have t:aF aA a+aA^k*((q*y:Nat):Int)=((x%BN^e*y:Nat):Int):=by
    rw[O.out,s,aqA,iW];simp only[Int.natCast_add,az8,bx9];rw[show((BN:Nat):Int)=aA from rfl]
   have j:((x%BN^e*y:Nat):Int)<aA^(n):=by
    rw[<-U.out,<-iX,KF];have E:x%BN^e<=x:=bxP _ _;have h2:=byV (jI E (cyD x)) (cyD y);omega
   have H:=FZ (z:=0) a l (by have:=h.out;omega) h.out t j;have X:=aB t;have S:=aB H;have an:nl (q*y)<=n-k:=by
    refine cJ ?_;have h0:=y9 aQ (l.drop k);have:((q*y:Nat):Int)<((BN^(n-k):Nat):Int):=by rw[iX];omega
    omega
   clear F s J N P t j H;have ar:(Value.slice B (nl y) d).ownBlock≠some w.1.size:=I.ne aE;have i1:(0:Int)<=(k:Int):=by omega
   have i2:(k:Int)<=((n:Nat):Int):=by omega
   have i3:(k:Int)<=(e:Int):=by omega
   have i4:(e:Int)<=(c:Int):=by omega
   have i5:¬n=k:=by omega
   have i7:k<=n:=by omega
   have i8:e<=c:=by omega
   have i9:k<=e:=by omega
   have i6:¬c=k:=by omega
   go_wp2
   go_region_held3 (fun _=>True) (trivial) (first
    |(go_at_call 114;refine(gC _ us (e-k) (c-k) _ T.out K (by omega) (by omega)).mono ?_;rintro D w' ⟨rfl,rfl⟩)
    |(go_at_call 69;refine(ih q y _ _ _ (by omega) (by unfold aJ;omega) ao ap).mono ?_;rintro D Q ⟨v2,rfl,⟨R,Z,rfl,a2,au,bb⟩,ak,g⟩)
    |(go_at_call 118;refine(eq9 w.1.size k (n-k) (a.drop k) (n-k) R (nl (q*y)) (dg (q*y)) Z Q Y.out rfl (af.be g b) (L.be g b) aE (by omega) au (AH (ak.ne2 b aq ar)) an (l.drop k) (cI _) (by rw[cU];exact S.out)).mono ?_;rintro D w3 ⟨rfl,ts,j,ht,M,ae,o⟩))
   have V:=aB j;have W:=aB M;clear j M;have ac:Below w.1.size w Q:=aC G g;go_wp2;go_roundw
   case rel=>
    have a0:=h.out;have bg:=V.out;refine⟨k+nl y,a.take k++ts,by omega,by go_num,?_,(l.take k).append ht,?_,o.join (ag.be g b) a0 (by omega) ae,o.soft (L.be g b),o.belowOf ac aE,?_⟩
    ·unfold Hid;rw[bN,bK];omega
    ·unfold Hid;rw[QG x y k e aj.out ai,<-X.out,kV,bK,y8 (by omega),W.out,cU,gF aA a k (by omega),bx6,Int.add_assoc]
    ·have E:=o.grown.size;have h2:=g.size;have h3:w.1.size<wr.drew.1.size:=b;omega
   case measure=>simp[intOf];omega
  ·go_wp2_with fail;refine(gC _ a (n) (n) wr h.out (Rd.mk b m) aE (by omega)).mono ?_;rintro e w4 ⟨rfl,rfl⟩;go_wp2;go_ret;refine⟨_,rfl,NatAt.trim (Rd.mk b m) l ?_ (by rw[h.out];exact aE) (Old.mk b),From.new aE,f⟩;rw[O.out,jJ];exact aZ (cyD x) (fT (by decide) (by omega))
