/-
  Contracts of functions that the statement reaches, and plain laws: RefD, RowK, RatR.
-/
import Derived.Test.YtlojjipfnejbnaaGreatDoorS19
import Derived.Test.YtlojjipfnejbnaaGreatDoorS26
import Derived.Test.YtlojjipfnejbnaaGreatDoorS29
import Derived.Test.YtlojjipfnejbnaaGreatDoorS35
import Derived.Test.YtlojjipfnejbnaaGreatDoorS39
import Derived.Test.YtlojjipfnejbnaaGreatDoorS40
set_option linter.unusedVariables false
set_option linter.unusedSimpArgs false
set_option maxHeartbeats 8000000
set_option maxRecDepth 100000
namespace Go.Proofs.YtlojjipfnejbnaaGreatDoor
open Go.RowKit Sos
theorem RS {f:Nat→Rat} {K:Nat} (h:∀k,RL (2*K) (f k)) (n:Nat):RL (1+n*(2*K+1)) (aU f n):=by
 induction n with
 |zero=>exact eO (by omega)
 |succ n ih=>exact bV (uP ih (h n)) (by rw[Nat.succ_mul n];omega)
theorem yF {x y:List Rat} {K:Nat} (hx:∀q∈x,RL K q) (hy:∀q∈y,RL K q) (h1:1≤K):∀q∈bB x y,RL (1+(x.length+y.length)*(2*K+1)) q:=fun q hq=>by
 unfold bB at hq;split at hq
 ·cases hq
 ·obtain⟨i,hi,rfl⟩:=List.mem_map.1 hq;have hi':=List.mem_range.1 hi;refine bV (RS (K:=K) (fun k=>bV (iB (fV hx (eO h1) _) (fV hy (eO h1) _)) (by omega)) (i+1)) ?_;have:=Nat.mul_le_mul_right (2*K+1) (show i+1≤x.length+y.length by omega);omega
def FL (w:World) (a b:List (List UInt8)) (e:Ending) (w':World):Prop:=∃v u,e= .returned (.tuple #[v,u,.bool (vl a&&vl b)])∧QsAt w' v (r6 a)∧QsAt w' u (r6 b)∧Below w.heap.size w w'
section
variable (a b:List (List UInt8)) (va vb:Value) (w:World) (ha:StrsAt w va a) (hb':StrsAt w vb b) (hla:a.length≤1000) (hlb:b.length≤1000) (hca:∀l∈a,l.length≤1073741824) (hcb:∀l∈b,l.length≤1073741824) (K:Nat) (hKa:∀q∈aE a,RL K q) (hKb:∀q∈aE b,RL K q) (hK1:1≤K) (hK:K≤1048576)
include ha hb' hla hlb hca hcb hKa hKb hK1 hK
omit hK1 in
theorem pG:Calls Tryz.prog 48 #[va,vb] w (FL w a b):=by
 obtain⟨A,c,rfl,hc⟩:=ha.form;obtain⟨A',c',rfl,hc'⟩:=hb'.form;go_enter Tryz.func48,Tryz.ntmps48;go_wp2_with fail;refine(FP a _ _ ha (by omega) hca (fun q hq=>bV (hKa q hq) (by omega))).mono ?_;rintro e1 w1 ⟨v1,rfl,h1,hb1⟩;go_wp2_with fail;refine(FP b _ _ (hb'.below hb1) (by omega) hcb (fun q hq=>bV (hKb q hq) (by omega))).mono ?_;rintro e2 w2 ⟨v2,rfl,h2,hb2⟩;replace h1:=h1.below hb2;replace hb1:=aB hb1 hb2;unfold FL;cases hva:vl a with
 |false=>
  go_wp2_with fail;exact bodyPost_ret (v:= .tuple #[v1,v2,.bool false]) (by simp[results,Tryz.results48,go_sem]) rfl ⟨_,_,by rw[hva];rfl,h1,h2,hb1⟩
 |true=>
  go_wp2_with fail;exact bodyPost_ret (v:= .tuple #[v1,v2,.bool (vl b)]) (by simp[results,Tryz.results48,go_sem]) rfl ⟨_,_,by rw[hva];rfl,h1,h2,hb1⟩
def jD (w:World) (a:List (List UInt8)) (c:List UInt8) (b:List (List UInt8)):Ending→World→Prop:=if vl a=true∧vl b=true∧rd c=true then dW w (aH aG (dL (aE a) ((aR c).getD 0) (aE b))) else gY w [] 1
theorem FM (c:List UInt8) (hcl:c.length≤1073741824) (kc:RL K ((aR c).getD 0)):Calls Tryz.prog 32 #[va,.string ⟨c.toArray⟩,vb] w (jD w a c b):=by
 have hpa:=pG a b va vb w ha hb' hla hlb hca hcb K hKa hKb hK;obtain⟨A,ca,rfl,hc⟩:=ha.form;obtain⟨A',cb,rfl,hc'⟩:=hb'.form;have hal:=dD a;have hbl:=dD b;go_enter Tryz.func32,Tryz.ntmps32;go_wp2_with fail;refine hpa.mono ?_;rintro e1 w1 ⟨v1,u1,rfl,h1,i1,hb1⟩;clear hpa;go_wp2_with fail;refine(FX c _ hcl).mono ?_;rintro e2 w2 ⟨v2,q2,rfl,h2,hq2,hb2⟩;obtain⟨s2,A2,k2,c2,s3,A3,k3,c3,rfl⟩:=h2.form;obtain⟨W3,eW3,hb3,X⟩:=bA w2 [.bool s2,.slice A2 k2 c2,.bool s3,.slice A3 k3 c3] 96;have cM:=X.g4;replace hb2:=aB hb2 hb3;replace h1:=h1.below hb2;replace i1:=i1.below hb2;replace h2:=h2.below hb3;replace hb1:=aB hb1 hb2;by_cases hv:(vl a&&vl b)=true
 ·obtain⟨hva,hvb⟩:vl a=true∧vl b=true:=by simpa using hv
  rw[hv];cases hr:rd c with
  |false=>
   have HA:Hid (¬(vl a=true∧vl b=true∧rd c=true)):=by unfold Hid;rw[hr];simp
   clear hv hva hvb hr h1 i1 hq2;go_wp2_with fail;(try rw[eW3]);go_ret2;unfold jD;rw[if_neg HA.out];exact⟨_,rfl,StrsAt.nil _ _ _,hb1⟩
  |true=>
   have HA:Hid (vl a=true∧vl b=true∧rd c=true):=⟨hva,hvb,hr⟩;rw[jE hva] at h1;rw[jE hvb] at i1;have hq:q2=(aR c).getD 0:=by
    obtain⟨r,hr'⟩:=Option.isSome_iff_exists.1 hr;rw[hr'];exact hq2 r hr'
   rw[hq] at h2;have hpl:=fun W u v x h h' h''=>qZ (aE a) ((aR c).getD 0) (aE b) u v x W h h' h'' K K hKa hKb kc hK1 (by omega) (by omega) (by omega)
   have hre:=fun W v h=>FQ (aH aG (dL (aE a) ((aR c).getD 0) (aE b))) v W h (2*K+K+1) (fun q hq=>by
    obtain⟨j,_,rfl⟩:=List.mem_map.1 (fQ hq);exact zU hKa hKb kc hK1 j) (by omega) (Nat.le_trans (cK _ _) (by rw[zO];omega))
   obtain⟨T,hT⟩:∃T,aH aG (dL (aE a) ((aR c).getD 0) (aE b))=T:=⟨_,rfl⟩;rw[hT] at hpl hre;have HT:=Lib.hid hT;clear hT hv hva hvb hr hq hq2 hal hbl;go_wp2_with fail;(try rw[eW3]);clear eW3;refine(hpl _ _ _ _ h1 h2 i1).mono ?_;rintro e4 w4 ⟨v4,rfl,h4,hb4⟩;replace hb1:=aB hb1 hb4;clear hpl;go_wp2_with fail;refine(hre _ _ h4).mono ?_;rintro e5 w5 ⟨v5,he5,h5,hb5⟩;generalize hec:(if T.length≤65 then (0:Int) else 2)=ec at he5;subst he5;have HEC:=Lib.hid hec;clear hec;go_wp2_with fail;go_ret2;unfold jD;rw[if_pos HA.out,HT.out];unfold dW;rw[HEC.out];exact⟨_,rfl,h5,aB hb1 hb5⟩
 ·have HA:Hid (¬(vl a=true∧vl b=true∧rd c=true)):=fun h=>hv (by rw[h.1,h.2.1];rfl);have hv':(vl a&&vl b)=false:=by simpa using hv
  rw[hv'];clear hv hv' h1 i1 hq2;go_wp2_with fail;(try rw[eW3]);go_ret2;unfold jD;rw[if_neg HA.out];exact⟨_,rfl,StrsAt.nil _ _ _,hb1⟩
theorem RT:Calls Tryz.prog 35 #[va,vb] w (jT w a b):=by
 have hpa:=pG a b va vb w ha hb' hla hlb hca hcb K hKa hKb hK;obtain⟨A,ca,rfl,hc⟩:=ha.form;obtain⟨A',cb,rfl,hc'⟩:=hb'.form;have hal:=dD a;have hbl:=dD b;go_enter Tryz.func35,Tryz.ntmps35;go_wp2_with fail;refine hpa.mono ?_;rintro e1 w1 ⟨v1,u1,rfl,h1,i1,hb1⟩;clear hpa;by_cases hv:(vl a&&vl b)=true
 ·obtain⟨hva,hvb⟩:vl a=true∧vl b=true:=by simpa using hv
  rw[hv];have HA:Hid (vl a=true∧vl b=true):=⟨hva,hvb⟩;rw[jE hva] at h1;rw[jE hvb] at i1;have hm1:=Nat.mul_le_mul_right (2*K+1) hla;have hm2:=Nat.mul_le_mul_right (2*K+1) (show a.length+b.length≤2000 by omega);have htm:=fun W u v h h'=>yG (aE a) (aE b) u v W h h' K hKa hKb hK1 (by omega) (by omega) (by rw[hal];omega);have hre:=fun W v h=>FQ (aH aG (bB (aE a) (aE b))) v W h _ (fun q hq=>yF hKa hKb hK1 q (fQ hq)) (by rw[hal,hbl];omega) (Nat.le_trans (cK _ _) (by unfold bB;split<;>simp;omega));obtain⟨T,hT⟩:∃T,aH aG (bB (aE a) (aE b))=T:=⟨_,rfl⟩;rw[hT] at htm hre;have HT:=Lib.hid hT;clear hT hv hva hvb hal hbl hm1 hm2;go_wp2_with fail;refine(htm _ _ _ h1 i1).mono ?_;rintro e4 w4 ⟨v4,rfl,h4,hb4⟩;replace hb1:=aB hb1 hb4;clear htm;go_wp2_with fail;refine(hre _ _ h4).mono ?_;rintro e5 w5 ⟨v5,he5,h5,hb5⟩;generalize hec:(if T.length≤65 then (0:Int) else 2)=ec at he5;subst he5;have HEC:=Lib.hid hec;clear hec;go_wp2_with fail;go_ret2;unfold jT;rw[if_pos HA.out,HT.out];unfold dW;rw[HEC.out];exact⟨_,rfl,h5,aB hb1 hb5⟩
 ·have HA:Hid (¬(vl a=true∧vl b=true)):=fun h=>hv (by rw[h.1,h.2];rfl);have hv':(vl a&&vl b)=false:=by simpa using hv
  rw[hv'];clear hv hv' h1 i1;go_wp2_with fail;go_ret2;unfold jT;rw[if_neg HA.out];exact⟨_,rfl,StrsAt.nil _ _ _,hb1⟩
def RU (w:World) (a b:List (List UInt8)) (e:Ending) (w':World):Prop:=
 ∃v u n Q R,e= .returned (.tuple #[v,u,.int .i64 n])∧StrsAt w' v (Q.map aO)∧StrsAt w' u (R.map aO)∧Below w.heap.size w w'∧
  (¬(vl a=true∧vl b=true)→n=1∧Q=[]∧R=[])∧(vl a=true→vl b=true→b=[]→n=5∧Q=[]∧R=[])∧(vl a=true→vl b=true→b≠[]→n=0∧DivQ (aE a) (aE b) Q R)
theorem RV (h20:a.length≤16) (hK':K≤1024):Calls Tryz.prog 37 #[va,vb] w (RU w a b):=by
 have hpa:=pG a b va vb w ha hb' hla hlb hca hcb K hKa hKb hK;obtain⟨A,ca,rfl,hc⟩:=ha.form;obtain⟨A',cb,rfl,hc'⟩:=hb'.form;have hal:=dD a;have hbl:=dD b;go_enter Tryz.func37,Tryz.ntmps37;go_wp2_with fail;refine hpa.mono ?_;rintro e1 w1 ⟨v1,u1,rfl,h1,i1,hb1⟩;clear hpa;by_cases hv:(vl a&&vl b)=true
 ·obtain⟨hva,hvb⟩:vl a=true∧vl b=true:=by simpa using hv
  rw[hv];rw[jE hva] at h1;rw[jE hvb] at i1;obtain⟨A3,c3,rfl,hc3⟩:=h1.form;obtain⟨A4,c4,rfl,hc4⟩:=i1.form;rw[hal] at h1⊢;rw[hbl] at i1⊢;by_cases h0:b.length=0
  ·have r0:((b.length:Int)==0)=true:=by rw[h0];rfl
   have HB:Hid (b=[]):=List.eq_nil_of_length_eq_zero h0;have HA:Hid (vl a=true∧vl b=true):=⟨hva,hvb⟩;clear hv hva hvb h1 i1 h0;go_wp2_with fail;refine bodyPost_ret (v:= .tuple #[.slice none 0 0,.slice none 0 0,.int .i64 5]) (by simp[results,Tryz.results37,go_sem]) rfl ⟨_,_,5,[],[],rfl,StrsAt.nil _ _ _,StrsAt.nil _ _ _,hb1,(fun h=>absurd HA.out h),(fun _ _ _=>⟨rfl,rfl,rfl⟩),(fun _ _ h=>absurd HB.out h)⟩
  ·have r0:((b.length:Int)==0)=false:=by simpa using h0
   have HB:Hid (b≠[]):=fun h=>h0 (by rw[h];rfl);have HA:Hid (vl a=true∧vl b=true):=⟨hva,hvb⟩;have htb:=(fD hvb).2.2;have hne:aE b≠[]:=fun h=>h0 (by rw[←hbl,h];rfl);have hB:=(cZ hne).1 htb;have hdE:=nD K (aE a).length;have hpw:2^(aE a).length≤2^16:=Nat.pow_le_pow_right (by decide) (by omega);have hmu:=Nat.mul_le_mul hpw (show 3*K+1≤4096 by omega);have hdv:=fun W u v h h'=>rD (aE a) (aE b) u v W h h' K hKa hKb hK1 (by omega) (by omega) hB 549755813 (by omega) (by decide);have htx:=fun W v Q (hQ:∀q∈Q,RL 549755813 q) (hl:Q.length≤1000) h=>oB Q v W h 549755813 hQ (by decide) (by omega);clear hv hva hvb h0 htb hne hB hdE hpw hmu;go_wp2_with fail;refine(hdv _ _ _ h1 i1).mono ?_;rintro e2 w2 ⟨v2,u2,Q,R,rfl,h2,i2,hDQ,hQB,hRB,hQl,hRl,hb2⟩;replace hb1:=aB hb1 hb2;have HDQ:=Lib.hid hDQ;clear hdv h1 i1 hDQ;go_wp2_with fail;refine(htx _ _ Q hQB (by omega) h2).mono ?_;rintro e3 w3 ⟨v3,rfl,h3,hb3⟩;replace hb1:=aB hb1 hb3;replace i2:=i2.below hb3;go_wp2_with fail;refine(htx _ _ R hRB (by omega) i2).mono ?_;rintro e4 w4 ⟨v4,rfl,h4,hb4⟩;replace h3:=h3.below hb4;replace hb1:=aB hb1 hb4;clear htx;go_wp2_with fail;refine bodyPost_ret (v:= .tuple #[v3,v4,.int .i64 0]) (by simp[results,Tryz.results37,go_sem]) rfl ⟨_,_,0,Q,R,rfl,h3,h4,hb1,(fun h=>absurd HA.out h),(fun _ _ h=>absurd h HB.out),(fun _ _ _=>⟨rfl,HDQ.out⟩)⟩
 ·have HA:Hid (¬(vl a=true∧vl b=true)):=fun h=>hv (by rw[h.1,h.2];rfl);have hv':(vl a&&vl b)=false:=by simpa using hv
  rw[hv'];clear hv hv' h1 i1;go_wp2_with fail;refine bodyPost_ret (v:= .tuple #[.slice none 0 0,.slice none 0 0,.int .i64 1]) (by simp[results,Tryz.results37,go_sem]) rfl ⟨_,_,1,[],[],rfl,StrsAt.nil _ _ _,StrsAt.nil _ _ _,hb1,(fun _=>⟨rfl,rfl,rfl⟩),(fun h1 h2 _=>absurd ⟨h1,h2⟩ HA.out),(fun h1 h2 _=>absurd ⟨h1,h2⟩ HA.out)⟩
end
section
variable {P:Program} {ops:Array Oper} {rest:List Oper} {o:Oper} {a:Act} {Q:Exit→Act→World→Prop} {w:World}
theorem UW (t ut ty e:TypeId) (i:TypeInfo) (ht:P.underlying t=some (.slice e)) (hu:P.underlying ut=some (.int .i64)) (hi:P.info? e=some i) (g n:Nat):
  (Builtin.append_ #[t,ut] ty #[.slice (some ⟨g,0,none⟩) n n,.int .i64 0]).run P w= .ok (.slice (some ⟨g,0,none⟩) n n) w:=by
 have hw:IntKind.i64.wrap 0=0:=IntWalk.i64_in _ (by omega);simp[Builtin.append_,run_underlying ht,run_underlying hu,sizeOf,typeInfo,hi,asInt,asIntOf,hw,storeCells]
theorem UY (t ut ty e:TypeId) (i:TypeInfo) (z:Value) (ht:P.underlying t=some (.slice e)) (hu:P.underlying ut=some (.int .i64)) (hi:P.info? e=some i) (hz:i.zero=some z) (hzs:z.cells.size=i.size) (hs0:0<i.size)
  (g n k:Nat) (olds:List Value) (hlo:olds.length=n*i.size) (holds:∀j v,olds[j]? =some v→w.cell? ((⟨g,0,none⟩:Addr).add j)=some v)
  (hk:0<k) (hm:n+k≤1073741824) (hby:i.bytes≤64):
  (Builtin.append_ #[t,ut] ty #[.slice (some ⟨g,0,none⟩) n n,.int .i64 (k:Int)]).run P w=
   .ok (.slice (some ⟨w.heap.size,0,none⟩) (n+k) (grownCap w (n+k) n e)) (w.drew.alloc (.cells (olds.toArray++Builtin.zeroCells z.cells k++Builtin.zeroCells z.cells (grownCap w (n+k) n e-(n+k))) e)):=by
 have hw:IntKind.i64.wrap (k:Int)=(k:Int):=IntWalk.i64_in _ (by omega);have hn:¬(n+k≤n):=by omega
 have h0:¬((k:Int)<0):=by omega
 have h1:¬(281474976710656<(k:Int)*(i.bytes:Int)):=by
  have h:k*i.bytes≤1073741824*64:=Nat.mul_le_mul (by omega) hby;have h':((k*i.bytes:Nat):Int)≤281474976710656:=by omega
  rw[Int.natCast_mul] at h';omega
 have h63':¬(9223372036854775807<((n:Int)+(k:Int))):=by omega
 have h48':¬(281474976710656<Builtin.nextslicecap (n+k) n*i.bytes):=by
  have:=growslice_fits (need:=n+k) (old:=n) (bytes:=i.bytes) (by omega) (by
   have:(n+k)*i.bytes≤1073741824*64:=Nat.mul_le_mul hm hby;omega)
  omega
 have hks:¬(k*i.size=0):=by
  have:=Nat.mul_pos hk hs0;omega
 have hfo:=run_firstCells_some (P:=P) w.drew i.size n ⟨g,0,none⟩ n n olds hlo (by simpa using holds);simp[Builtin.append_,run_underlying ht,run_underlying hu,sizeOf,typeInfo,zeroValue,hi,hz,asInt,asIntOf,hw,hn,h0,h1,h63',h48',Question.forced,hfo,newRow,grownCap];exact fun h=>absurd h hks
theorem I1 (hgd:o.guard=none) {s x:Operand} {t ut:TypeId} (ho:o.op= .call { callee:= .builtin .append,args:= #[s,x],argTypes:= #[t,ut] })
  (e:TypeId) (z:Value) (size bytes:Nat) (ht:P.underlying t=some (.slice e)) (hu:P.underlying ut=some (.int .i64)) (hi:(P.info? e).map (fun i=>(i.zero,i.size,i.bytes))=some (some z,size,bytes)) (hzs:z.cells.size=size) (hz0:0<size) (hby:bytes≤64)
  (g n k:Nat) (hs:a.eval s= .slice (some ⟨g,0,none⟩) n n) {K:Int} (hx:a.eval x= .int .i64 K) (hK:K=(k:Int)) (hm:n+k≤1073741824) (rows:List (List Value)) (hr:Rw w g size rows e) (hn:n≤rows.length)
  (h:∀g' cap w' rows',(g'=g∧w'=w∨w.heap.size≤g')→Rw w' g' size (rows.take n++List.replicate k z.cells.toList++rows') e→Below w.heap.size w w'→n+k≤cap→
   wpList P ops Q rest (a.put o.dst (.slice (some ⟨g',0,none⟩) (n+k) cap)) w'):wpList P ops Q (o :: rest) a w:=by
 obtain⟨i,hi0,hz,hs1,hby1⟩:=info_parts hi;subst hK;refine wpList_plain hgd fun C hC=> ?_;unfold Oper.wp;rcases Nat.eq_zero_or_pos k with hk|hk
 ·subst hk;have hrun:=UW (P:=P) (w:=w) t ut o.type e i ht hu hi0 g n;simp only[execOp,ho,resolve,invoke,builtin,Sem.run_bind,Sem.run_pure,Result.andThen_ok,List.map_toArray,List.map_cons,List.map_nil,hs,hx,Int.natCast_zero,hrun];refine hC _ _ (h g n w (rows.drop n) (.inl ⟨rfl,rfl⟩) ?_ (Below.refl _ _) (Nat.le_refl _));rw[List.replicate_zero,List.append_nil,List.take_append_drop];exact hr
 ·have hzl:∀m,(Builtin.zeroCells z.cells m).toList=(List.replicate m z.cells.toList).flatten:=fun m=>BB z.cells m (by omega);have hk1:∀r∈rows.take n,r.length=size:=fun r h=>hr.2 r (List.mem_of_mem_take h)
  have hrun:=UY (P:=P) (w:=w) t ut o.type e i z ht hu hi0 hz (by rw[hzs,hs1]) (by omega) g n k (rows.take n).flatten (by rw[gK hk1,List.length_take,hs1];congr 1;omega) (fun j v hv=>by
   have hadd:(⟨g,0,none⟩:Addr).add j=⟨g,j,none⟩:=by unfold Addr.add;split<;>simp_all
   rw[hadd];refine hr.1.cell j ?_;have:rows.flatten=(rows.take n).flatten++(rows.drop n).flatten:=by rw[←List.flatten_append,List.take_append_drop]
   rw[this,List.getElem?_append_left ((List.getElem?_eq_some_iff.1 hv).1)];exact hv) hk hm (by omega)
  simp only[execOp,ho,resolve,invoke,builtin,Sem.run_bind,Sem.run_pure,Result.andThen_ok,List.map_toArray,List.map_cons,List.map_nil,hs,hx,hrun];refine hC _ _ (h w.heap.size _ _ (List.replicate (grownCap w (n+k) n e-(n+k)) z.cells.toList) (.inr (Nat.le_refl _)) ?_ ((Below.refl w.heap.size w).drew.alloc (Nat.le_refl _) _) (grownCap_ge _ _ _ _));refine⟨?_,fun r hr'=> ?_⟩
  ·unfold Bx;rw[show w.heap.size=w.drew.heap.size from rfl,heap_alloc_new w.drew _];congr 2;apply Array.ext';simp only[Array.toList_append,List.flatten_append,hzl]
  ·rcases List.mem_append.1 hr' with h1|h1
   ·rcases List.mem_append.1 h1 with h2|h2
    ·exact hk1 r h2
    ·rw[List.eq_of_mem_replicate h2];simpa using hzs
   ·rw[List.eq_of_mem_replicate h1];simpa using hzs
end
theorem OwnR.zeros {w w':World} {g n k:Nat} {rows rows':List (List Value)} {qs:List Rat} (hr:RRow w rows qs) (hq:qs.length=n) (hn:n≤rows.length) (hk:Keep w w')
  (h:Rw w' g 4 (rows.take n++List.replicate k [.bool false,.slice none 0 0,.bool false,.slice none 0 0]++rows') 83):OwnR w' g (qs++List.replicate k 0):=by
 refine⟨_,h,by simp;omega,fun i q hi=> ?_⟩;have hlt:(rows.take n).length=n:=by rw[List.length_take];omega
 rcases Nat.lt_or_ge i n with h1|h1
 ·rw[List.getElem?_append_left (by omega)] at hi;obtain⟨s,A,l,c,s',A',l',c',e1,e2⟩:=hr i q hi;refine⟨s,A,l,c,s',A',l',c',?_,e2.keep hk⟩;rw[List.append_assoc,List.getElem?_append_left (by omega),List.getElem?_take,if_pos h1];exact e1
 ·rw[List.getElem?_append_right (by omega)] at hi;have hlt2:=(List.getElem?_eq_some_iff.1 hi).1;rw[List.length_replicate] at hlt2;rw[List.getElem?_replicate,if_pos hlt2] at hi;injection hi with hi;subst hi;refine⟨false,none,0,0,false,none,0,0,?_,RatAt.zero _⟩;rw[List.append_assoc,List.getElem?_append_right (by omega),List.getElem?_append_left (by rw[List.length_replicate,hlt];omega),List.getElem?_replicate,if_pos (by rw[hlt];omega)]
theorem RatAt.denN {w:World} {s s':Bool} {u u':Value} {q:Rat} (h:RatAt w (.agg #[.bool s,u,.bool s',u']) q) (h1:q.den≠1):IntAt w (.agg #[.bool s',u']) (q.den:Int):=by
 have:=h.den;rwa [iS h1] at this
theorem V0 (x y:Rat) (vx vy:Value) (w:World) (hx:RatAt w vx x) (hy:RatAt w vy y) (hx1:x.den=1) (hy1:y.den=1) (K:Nat) (bx:RL K x) (bY:RL K y) (hK:10*K+40≤aF):
  Calls Tryz.prog 81 #[vx,vy] w (eV w (x+y)):=by
 obtain⟨s,A,k,c,s',A',k',c',rfl⟩:=hx.form;obtain⟨t,C,l,e,t',C',l',e',rfl⟩:=hy.form;unfold aF at hK;have⟨bx1,bx2⟩:=bx;have⟨by1,by2⟩:=bY;obtain⟨e1,e2⟩:=zI (y:=y) hx1;rw[hy1] at e1 e2;have HE:Hid ((x+y).num=x.num+y.num∧aS (x+y)=0):=⟨by rw[e1];simp,dH.2 e2⟩;have dx:aS x=0:=dH.2 hx1;have dy:aS y=0:=dH.2 hy1;clear e1 e2;obtain⟨W,eW,hb,X,Y,R⟩:=dK w [.bool s,.slice A k c,.bool s',.slice A' k' c'] 83 [.bool t,.slice C l e,.bool t',.slice C' l' e'] 83 [.bool false,.slice none 0 0,.bool false,.slice none 0 0] 83;have cM:=aa X.g4 (aa Y.g4 R.g4);go_enter Tryz.func81,Tryz.ntmps81;go_wp2_with fail;(try rw[eW]);clear eW;have hxn:IntAt W (.agg #[.bool s,.slice A k c]) x.num:=(hx.below hb).num;have hxd:IntAt W (.agg #[.bool s',.slice A' k' c']) 0:=by have:=(hx.below hb).den;rwa [dx] at this
 have hyn:IntAt W (.agg #[.bool t,.slice C l e]) y.num:=(hy.below hb).num;have hyd:IntAt W (.agg #[.bool t',.slice C' l' e']) 0:=by have:=(hy.below hb).den;rwa [dy] at this
 clear dx dy hx1 hy1;generalize x.num=xn at *;generalize y.num=yn at *;refine(cU 0 _ _ hxd n9).mono ?_;rintro e1 w1 ⟨rfl,hb1⟩;replace X:=X.below hb1;replace Y:=Y.below hb1;replace R:=R.below hb1;replace cM:=aa X.k4 (aa Y.k4 R.g4);replace hk:=Keep.below hb1;replace hxn:=hxn.keep hk;replace hxd:=hxd.keep hk;replace hyn:=hyn.keep hk;replace hyd:=hyd.keep hk;replace hb:=aB hb hb1;have hdd:decide ((0:Int)=0)=true:=rfl;rw[hdd];clear hdd;go_wp2_with fail;refine(cU 0 _ _ hyd n9).mono ?_;rintro e2 w2 ⟨rfl,hb2⟩;replace X:=X.below hb2;replace Y:=Y.below hb2;replace R:=R.below hb2;replace cM:=aa X.k4 (aa Y.k4 R.g4);replace hk:=Keep.below hb2;replace hxn:=hxn.keep hk;replace hxd:=hxd.keep hk;replace hyn:=hyn.keep hk;replace hyd:=hyd.keep hk;replace hb:=aB hb hb2;have hdd:decide ((0:Int)=0)=true:=rfl;rw[hdd];clear hdd;go_wp2_with fail;refine(nI xn yn _ _ _ hxn hyn (by omega) (by omega)).mono ?_;rintro e5 w5 ⟨v5,rfl,h5,hb5⟩;obtain⟨s5,A5,k5,c5,rfl⟩:=h5.form;replace X:=X.below hb5;replace Y:=Y.below hb5;replace R:=R.below hb5;replace cM:=aa X.k4 (aa Y.k4 R.g4);replace hb:=aB hb hb5;go_wp2_with fail;obtain⟨W6,eW6,R,hb,hk,ff⟩:=R.put4 hb (by omega) (.bool s5) (.slice A5 k5 c5) (.bool false) (.slice none 0 0) rfl rfl;replace X:=ff X (by omega);replace Y:=ff Y (by omega);replace h5:=h5.keep hk;rw[eW6];clear eW6;replace cM:=aa X.k4 (aa Y.k4 R.k4);exact bodyPost_ret (v:= .agg #[.bool s5,.slice A5 k5 c5,.bool false,.slice none 0 0]) (by simp[results,Tryz.results81,go_sem,R.k4]) rfl ⟨_,rfl,RatAt.of h5 (IntAt.zero _) HE.out.1 HE.out.2,hb⟩
theorem V1 (x y:Rat) (vx vy:Value) (w:World) (hx:RatAt w vx x) (hy:RatAt w vy y) (hx1:x.den=1) (hy1:y.den≠1) (K:Nat) (bx:RL K x) (bY:RL K y) (hK:10*K+40≤aF):
  Calls Tryz.prog 81 #[vx,vy] w (eV w (x+y)):=by
 obtain⟨s,A,k,c,s',A',k',c',rfl⟩:=hx.form;obtain⟨t,C,l,e,t',C',l',e',rfl⟩:=hy.form;unfold aF at hK;have⟨bx1,bx2⟩:=bx;have⟨by1,by2⟩:=bY;obtain⟨e1,e2⟩:=zI (y:=y) hx1;have HE:Hid ((x+y).num=x.num*y.den+y.num∧aS (x+y)=y.den):=⟨e1,by rw[iS (by rw[e2];exact hy1),e2]⟩;have dx:aS x=0:=dH.2 hx1;clear e1 e2;obtain⟨W,eW,hb,X,Y,R⟩:=dK w [.bool s,.slice A k c,.bool s',.slice A' k' c'] 83 [.bool t,.slice C l e,.bool t',.slice C' l' e'] 83 [.bool false,.slice none 0 0,.bool false,.slice none 0 0] 83;have cM:=aa X.g4 (aa Y.g4 R.g4);go_enter Tryz.func81,Tryz.ntmps81;go_wp2_with fail;(try rw[eW]);clear eW;have hxn:IntAt W (.agg #[.bool s,.slice A k c]) x.num:=(hx.below hb).num;have hxd:IntAt W (.agg #[.bool s',.slice A' k' c']) 0:=by have:=(hx.below hb).den;rwa [dx] at this
 have hyn:IntAt W (.agg #[.bool t,.slice C l e]) y.num:=(hy.below hb).num;have hyd:IntAt W (.agg #[.bool t',.slice C' l' e']) (y.den:Int):=(hy.below hb).denN hy1;have hde:decide ((y.den:Int)=0)=false:=by have:=y.den_nz;simpa using this
 have hby:nl (y.den:Int).natAbs≤K:=by2;clear dx hx1 hy1 by2 bY bx bx2;generalize x.num=xn at *;generalize y.num=yn at *;generalize (y.den:Int)=yd at *;have hml:=bZ xn yd K K bx1 hby;refine(cU 0 _ _ hxd n9).mono ?_;rintro e1 w1 ⟨rfl,hb1⟩;replace X:=X.below hb1;replace Y:=Y.below hb1;replace R:=R.below hb1;replace cM:=aa X.k4 (aa Y.k4 R.g4);replace hk:=Keep.below hb1;replace hxn:=hxn.keep hk;replace hxd:=hxd.keep hk;replace hyn:=hyn.keep hk;replace hyd:=hyd.keep hk;replace hb:=aB hb hb1;have hdd:decide ((0:Int)=0)=true:=rfl;rw[hdd];clear hdd;go_wp2_with fail;refine(cU yd _ _ hyd (by omega)).mono ?_;rintro e2 w2 ⟨rfl,hb2⟩;replace X:=X.below hb2;replace Y:=Y.below hb2;replace R:=R.below hb2;replace cM:=aa X.k4 (aa Y.k4 R.g4);replace hk:=Keep.below hb2;replace hxn:=hxn.keep hk;replace hxd:=hxd.keep hk;replace hyn:=hyn.keep hk;replace hyd:=hyd.keep hk;replace hb:=aB hb hb2;rw[hde];clear hde;go_wp2_with fail;refine(cU 0 _ _ hxd n9).mono ?_;rintro e3 w3 ⟨rfl,hb3⟩;replace X:=X.below hb3;replace Y:=Y.below hb3;replace R:=R.below hb3;replace cM:=aa X.k4 (aa Y.k4 R.g4);replace hk:=Keep.below hb3;replace hxn:=hxn.keep hk;replace hxd:=hxd.keep hk;replace hyn:=hyn.keep hk;replace hyd:=hyd.keep hk;replace hb:=aB hb hb3;have hdd:decide ((0:Int)=0)=true:=rfl;rw[hdd];clear hdd;go_wp2_with fail;replace hxn:=hxn.drew;replace hyn:=hyn.drew;replace hyd:=hyd.drew;replace X:=X.drew;replace Y:=Y.drew;replace R:=R.drew;replace hb:=hb.drew;replace cM:=aa X.k4 (aa Y.k4 R.g4);have n_R_X:w.heap.size+1+1≠w.heap.size:=by omega
 have n_R_Y:w.heap.size+1+1≠w.heap.size+1:=by omega
 go_region_held3 (fun w'=>C4 w' w.heap.size (.bool s) (.slice A k c) (.bool s') (.slice A' k' c')∧C4 w' (w.heap.size+1) (.bool t) (.slice C l e) (.bool t') (.slice C' l' e'))
  (first|(with_reducible exact⟨X.k4,Y.k4⟩)|(refine⟨?_,?_⟩<;>(repeat (first|with_reducible exact X.k4|with_reducible exact Y.k4|with_reducible refine fP n_R_X ?_|with_reducible refine fP n_R_Y ?_))))
  (first
   |(go_at_call 46;(with_reducible refine(f8 xn yd _ _ _ hxn hyd (by omega)).mono ?_);rintro e4 w4 ⟨v4,rfl,h4,hb4⟩;obtain⟨s4,A4,k4,c4,rfl⟩:=h4.form;replace X:=X.below hb4;replace Y:=Y.below hb4;replace R:=R.below hb4;replace cM:=aa X.k4 (aa Y.k4 R.g4);replace hk:=Keep.below hb4;replace hxn:=hxn.keep hk;replace hyn:=hyn.keep hk;replace hyd:=hyd.keep hk;(try replace h5:=h5.keep hk);replace hb:=aB hb hb4)
   |(go_at_call 95;(with_reducible refine(nI (xn*yd) yn _ _ _ h4 hyn (by omega) (by omega)).mono ?_);rintro e5 w5 ⟨v5,rfl,h5,hb5⟩;obtain⟨s5,A5,k5,c5,rfl⟩:=h5.form;replace X:=X.below hb5;replace Y:=Y.below hb5;replace R:=R.below hb5;replace cM:=aa X.k4 (aa Y.k4 R.g4);replace hk:=Keep.below hb5;replace hxn:=hxn.keep hk;replace hyn:=hyn.keep hk;replace hyd:=hyd.keep hk;(try replace h4:=h4.keep hk);replace hb:=aB hb hb5))
 all_goals (
  go_wp2_with fail;obtain⟨W6,eW6,R,hb,hk,ff⟩:=R.put4 hb (by omega) (.bool s5) (.slice A5 k5 c5) (.bool t') (.slice C' l' e') rfl rfl;replace X:=ff X (by omega);replace Y:=ff Y (by omega);replace h5:=h5.keep hk;replace hyd:=hyd.keep hk;rw[eW6];clear eW6;replace cM:=aa X.k4 (aa Y.k4 R.k4);exact bodyPost_ret (v:= .agg #[.bool s5,.slice A5 k5 c5,.bool t',.slice C' l' e']) (by simp[results,Tryz.results81,go_sem,R.k4]) rfl ⟨_,rfl,RatAt.of h5 hyd HE.out.1 HE.out.2,hb⟩;)
theorem V3 (x y:Rat) (vx vy:Value) (w:World) (hx:RatAt w vx x) (hy:RatAt w vy y) (hx1:x.den≠1) (hy1:y.den=1) (K:Nat) (bx:RL K x) (bY:RL K y) (hK:10*K+40≤aF):
  Calls Tryz.prog 81 #[vx,vy] w (eV w (x+y)):=by
 obtain⟨s,A,k,c,s',A',k',c',rfl⟩:=hx.form;obtain⟨t,C,l,e,t',C',l',e',rfl⟩:=hy.form;unfold aF at hK;have⟨bx1,bx2⟩:=bx;have⟨by1,by2⟩:=bY;obtain⟨e1,e2⟩:=UA (x:=x) hy1;have HE:Hid ((x+y).num=y.num*x.den+x.num∧aS (x+y)=x.den):=⟨e1,by rw[iS (by rw[e2];exact hx1),e2]⟩;have dy:aS y=0:=dH.2 hy1;clear e1 e2;obtain⟨W,eW,hb,X,Y,R⟩:=dK w [.bool s,.slice A k c,.bool s',.slice A' k' c'] 83 [.bool t,.slice C l e,.bool t',.slice C' l' e'] 83 [.bool false,.slice none 0 0,.bool false,.slice none 0 0] 83;have cM:=aa X.g4 (aa Y.g4 R.g4);go_enter Tryz.func81,Tryz.ntmps81;go_wp2_with fail;(try rw[eW]);clear eW;have hxn:IntAt W (.agg #[.bool s,.slice A k c]) x.num:=(hx.below hb).num;have hyd:IntAt W (.agg #[.bool t',.slice C' l' e']) 0:=by have:=(hy.below hb).den;rwa [dy] at this
 have hyn:IntAt W (.agg #[.bool t,.slice C l e]) y.num:=(hy.below hb).num;have hxd:IntAt W (.agg #[.bool s',.slice A' k' c']) (x.den:Int):=(hx.below hb).denN hx1;have hde:decide ((x.den:Int)=0)=false:=by have:=x.den_nz;simpa using this
 have hby:nl (x.den:Int).natAbs≤K:=bx2;clear dy hx1 hy1 by2 bY bx bx2;generalize x.num=xn at *;generalize y.num=yn at *;generalize (x.den:Int)=xd at *;have HDE:=Lib.hid hde;clear hde;have hml:=bZ yn xd K K by1 hby;refine(cU xd _ _ hxd (by omega)).mono ?_;rintro e1 w1 ⟨rfl,hb1⟩;replace X:=X.below hb1;replace Y:=Y.below hb1;replace R:=R.below hb1;replace cM:=aa X.k4 (aa Y.k4 R.g4);replace hk:=Keep.below hb1;replace hxn:=hxn.keep hk;replace hxd:=hxd.keep hk;replace hyn:=hyn.keep hk;replace hyd:=hyd.keep hk;replace hb:=aB hb hb1;rw[HDE.out];go_wp2_with fail;refine(cU xd _ _ hxd (by omega)).mono ?_;rintro e2 w2 ⟨rfl,hb2⟩;replace X:=X.below hb2;replace Y:=Y.below hb2;replace R:=R.below hb2;replace cM:=aa X.k4 (aa Y.k4 R.g4);replace hk:=Keep.below hb2;replace hxn:=hxn.keep hk;replace hxd:=hxd.keep hk;replace hyn:=hyn.keep hk;replace hyd:=hyd.keep hk;replace hb:=aB hb hb2;rw[HDE.out];go_wp2_with fail;refine(cU 0 _ _ hyd n9).mono ?_;rintro e3 w3 ⟨rfl,hb3⟩;replace X:=X.below hb3;replace Y:=Y.below hb3;replace R:=R.below hb3;replace cM:=aa X.k4 (aa Y.k4 R.g4);replace hk:=Keep.below hb3;replace hxn:=hxn.keep hk;replace hxd:=hxd.keep hk;replace hyn:=hyn.keep hk;replace hyd:=hyd.keep hk;replace hb:=aB hb hb3;have hdd:decide ((0:Int)=0)=true:=rfl;rw[hdd];clear hdd;go_wp2_with fail;replace hxn:=hxn.drew;replace hyn:=hyn.drew;replace hxd:=hxd.drew;replace X:=X.drew;replace Y:=Y.drew;replace R:=R.drew;replace hb:=hb.drew;replace cM:=aa X.k4 (aa Y.k4 R.g4);have n_R_X:w.heap.size+1+1≠w.heap.size:=by omega
 have n_R_Y:w.heap.size+1+1≠w.heap.size+1:=by omega
 go_region_held3 (fun w'=>C4 w' w.heap.size (.bool s) (.slice A k c) (.bool s') (.slice A' k' c')∧C4 w' (w.heap.size+1) (.bool t) (.slice C l e) (.bool t') (.slice C' l' e'))
  (first|(with_reducible exact⟨X.k4,Y.k4⟩)|(refine⟨?_,?_⟩<;>(repeat (first|with_reducible exact X.k4|with_reducible exact Y.k4|with_reducible refine fP n_R_X ?_|with_reducible refine fP n_R_Y ?_))))
  (first
   |(go_at_call 46;(with_reducible refine(f8 yn xd _ _ _ hyn hxd (by omega)).mono ?_);rintro e4 w4 ⟨v4,rfl,h4,hb4⟩;obtain⟨s4,A4,k4,c4,rfl⟩:=h4.form;replace X:=X.below hb4;replace Y:=Y.below hb4;replace R:=R.below hb4;replace cM:=aa X.k4 (aa Y.k4 R.g4);replace hk:=Keep.below hb4;replace hxn:=hxn.keep hk;replace hyn:=hyn.keep hk;replace hxd:=hxd.keep hk;(try replace h5:=h5.keep hk);replace hb:=aB hb hb4)
   |(go_at_call 95;(with_reducible refine(nI (yn*xd) xn _ _ _ h4 hxn (by omega) (by omega)).mono ?_);rintro e5 w5 ⟨v5,rfl,h5,hb5⟩;obtain⟨s5,A5,k5,c5,rfl⟩:=h5.form;replace X:=X.below hb5;replace Y:=Y.below hb5;replace R:=R.below hb5;replace cM:=aa X.k4 (aa Y.k4 R.g4);replace hk:=Keep.below hb5;replace hxn:=hxn.keep hk;replace hyn:=hyn.keep hk;replace hxd:=hxd.keep hk;(try replace h4:=h4.keep hk);replace hb:=aB hb hb5))
 all_goals (
  go_wp2_with fail;obtain⟨W6,eW6,R,hb,hk,ff⟩:=R.put4 hb (by omega) (.bool s5) (.slice A5 k5 c5) (.bool s') (.slice A' k' c') rfl rfl;replace X:=ff X (by omega);replace Y:=ff Y (by omega);replace h5:=h5.keep hk;replace hxd:=hxd.keep hk;rw[eW6];clear eW6;replace cM:=aa X.k4 (aa Y.k4 R.k4);exact bodyPost_ret (v:= .agg #[.bool s5,.slice A5 k5 c5,.bool s',.slice A' k' c']) (by simp[results,Tryz.results81,go_sem,R.k4]) rfl ⟨_,rfl,RatAt.of h5 hxd HE.out.1 HE.out.2,hb⟩;)
end Go.Proofs.YtlojjipfnejbnaaGreatDoor
