/-
  Contracts of functions that the statement reaches, and plain laws: RowG, RowH, RatF, RowI, RatG.
-/
import Derived.Test.YtlojjipfnejbnaaGreatDoorS19
import Derived.Test.YtlojjipfnejbnaaGreatDoorS24
import Derived.Test.YtlojjipfnejbnaaGreatDoorS25
set_option linter.unusedVariables false
set_option linter.unusedSimpArgs false
set_option maxHeartbeats 8000000
set_option maxRecDepth 100000
namespace Go.Proofs.YtlojjipfnejbnaaGreatDoor
open Go.RowKit Sos
def RRow (w:World) (rows:List (List Value)) (qs:List Rat):Prop:=∀(i:Nat) (q:Rat),qs[i]? =some q→∃s A l c s' A' l' c',rows[i]? =some [Value.bool s,Value.slice A l c,Value.bool s',Value.slice A' l' c']∧RatAt w (.agg #[.bool s,.slice A l c,.bool s',.slice A' l' c']) q
theorem RRow.keep {w w':World} {rows:List (List Value)} {qs:List Rat} (h:RRow w rows qs) (hk:Keep w w'):RRow w' rows qs:=fun i q hi=>by
 obtain⟨s,A,l,c,s',A',l',c',h1,h2⟩:=h i q hi;exact⟨s,A,l,c,s',A',l',c',h1,h2.keep hk⟩
theorem RRow.take {w:World} {rows:List (List Value)} {qs:List Rat} (h:RRow w rows qs) (m:Nat):RRow w rows (qs.take m):=fun i q hi=>by
 rw[List.getElem?_take] at hi;split at hi
 ·exact h i q hi
 ·cases hi
def RatsAt (w:World) (v:Value) (qs:List Rat):Prop:=∃A c,v= .slice A qs.length c∧qs.length≤c∧(qs=[]∨∃b rows,A=some ⟨b,0,none⟩∧Rw w b 4 rows 83∧RRow w rows qs)
theorem RatsAt.below {w w':World} {v:Value} {qs:List Rat} (h:RatsAt w v qs) (hb:Below w.heap.size w w'):RatsAt w' v qs:=by
 obtain⟨A,c,hv,hc,h⟩:=h;refine⟨A,c,hv,hc,?_⟩;rcases h with h|⟨b,rows,e,hr,hi⟩
 ·exact .inl h
 ·exact .inr ⟨b,rows,e,hr.below hb,hi.keep (Keep.below hb)⟩
theorem RatsAt.nil (w:World) (A:Option Addr) (c:Nat):RatsAt w (.slice A 0 c) []:=⟨A,c,rfl,Nat.zero_le _,.inl rfl⟩
theorem RatsAt.form {w:World} {v:Value} {qs:List Rat} (h:RatsAt w v qs):∃A c,v= .slice A qs.length c∧qs.length≤c:=by
 obtain⟨A,c,hv,hc,_⟩:=h;exact⟨A,c,hv,hc⟩
theorem RatsAt.cut {w:World} {A:Option Addr} {c l:Nat} {qs:List Rat} (h:RatsAt w (.slice A l c) qs) (m:Nat) (hm:m≤qs.length):RatsAt w (.slice A m c) (qs.take m):=by
 obtain⟨A',c',e,hc,h⟩:=h;simp only[Value.slice.injEq] at e;obtain⟨rfl,rfl,rfl⟩:=e;refine⟨A,c,by rw[List.length_take,Nat.min_eq_left hm],by rw[List.length_take];omega,?_⟩;rcases h with h|⟨b,rows,e,hr,hi⟩
 ·exact .inl (by rw[h];simp)
 ·exact .inr ⟨b,rows,e,hr,hi.take m⟩
theorem RatsAt.at_ {w:World} {A:Option Addr} {c l:Nat} {qs:List Rat} (h:RatsAt w (.slice A l c) qs) {i:Nat} {q:Rat} (hi:qs[i]? =some q):
  ∃b s B m d s' B' m' d',A=some ⟨b,0,none⟩∧b<w.heap.size∧w.cell? ⟨b,i*4,none⟩=some (.bool s)∧w.cell? ⟨b,i*4+1,none⟩=some (.slice B m d)∧w.cell? ⟨b,i*4+2,none⟩=some (.bool s')∧w.cell? ⟨b,i*4+3,none⟩=some (.slice B' m' d')∧RatAt w (.agg #[.bool s,.slice B m d,.bool s',.slice B' m' d']) q:=by
 obtain⟨A',c',e,hc,h⟩:=h;simp only[Value.slice.injEq] at e;obtain⟨rfl,rfl,rfl⟩:=e;rcases h with h|⟨b,rows,e,hr,hir⟩
 ·rw[h] at hi;simp at hi
 ·obtain⟨s,B,m,d,s',B',m',d',h1,h2⟩:=hir i q hi;exact⟨b,s,B,m,d,s',B',m',d',e,hr.lt,hr.cell 0 h1 rfl,hr.cell 1 h1 rfl,hr.cell 2 h1 rfl,hr.cell 3 h1 rfl,h2⟩
def OwnR (w:World) (b:Nat) (qs:List Rat):Prop:=∃rows,Rw w b 4 rows 83∧qs.length≤rows.length∧RRow w rows qs
section
variable {w w':World} {b:Nat} {qs:List Rat}
theorem OwnR.lt (h:OwnR w b qs):b<w.heap.size:=by
 obtain⟨rows,hr,_⟩:=h;exact hr.lt
theorem OwnR.below (h:OwnR w b qs) (hb:Below w.heap.size w w'):OwnR w' b qs:=by
 obtain⟨rows,hr,hl,hi⟩:=h;exact⟨rows,hr.below hb,hl,hi.keep (Keep.below hb)⟩
theorem OwnR.step {g:Nat} (h:OwnR w b qs) (hs:jJ g w w') (hne:b≠g):OwnR w' b qs:=by
 obtain⟨rows,hr,hl,hi⟩:=h;exact⟨rows,⟨(hs.2.1 b hne).trans hr.1,hr.2⟩,hl,hi.keep hs.1⟩
theorem OwnR.rats (h:OwnR w b qs) (c:Nat) (hc:qs.length≤c):RatsAt w (.slice (some ⟨b,0,none⟩) qs.length c) qs:=by
 obtain⟨rows,hr,hl,hi⟩:=h;exact⟨_,c,rfl,hc,.inr ⟨b,rows,rfl,hr,hi⟩⟩
theorem OwnR.free (h:OwnR w b qs) (j:Nat):w.frozen? ⟨b,j,none⟩=false:=by
 obtain⟨rows,hr,_⟩:=h;exact hr.free j
theorem OwnR.at_ (h:OwnR w b qs) {i:Nat} {q:Rat} (hi:qs[i]? =some q):
  ∃s B m d s' B' m' d',w.cell? ⟨b,i*4,none⟩=some (.bool s)∧w.cell? ⟨b,i*4+1,none⟩=some (.slice B m d)∧w.cell? ⟨b,i*4+2,none⟩=some (.bool s')∧w.cell? ⟨b,i*4+3,none⟩=some (.slice B' m' d')∧RatAt w (.agg #[.bool s,.slice B m d,.bool s',.slice B' m' d']) q:=by
 obtain⟨rows,hr,hl,hir⟩:=h;obtain⟨s,B,m,d,s',B',m',d',h1,h2⟩:=hir i q hi;exact⟨s,B,m,d,s',B',m',d',hr.cell 0 h1 rfl,hr.cell 1 h1 rfl,hr.cell 2 h1 rfl,hr.cell 3 h1 rfl,h2⟩
theorem OwnR.stored (h:OwnR w b qs) {i:Nat} (hi:i<qs.length) {s s':Bool} {A A':Option Addr} {l c l' c':Nat} {q:Rat} (hn:RatAt w (.agg #[.bool s,.slice A l c,.bool s',.slice A' l' c']) q):
  let W:=(((w.setCell ⟨b,i*4,none⟩ (.bool s)).setCell ⟨b,i*4+1,none⟩ (.slice A l c)).setCell ⟨b,i*4+2,none⟩ (.bool s')).setCell ⟨b,i*4+3,none⟩ (.slice A' l' c')
  OwnR W b (qs.set i q)∧jJ b w W:=by
 obtain⟨rows,hr,hl,hir⟩:=h;obtain⟨s1,A1,l1,c1,s2,A2,l2,c2,h1,h2⟩:=hir i qs[i] (List.getElem?_eq_getElem hi);have hlt:i<rows.length:=by omega
 have r1:=hr.set 0 h1 (by omega) (.bool s);have g1:(rows.set i ([Value.bool s1,.slice A1 l1 c1,.bool s2,.slice A2 l2 c2].set 0 (.bool s)))[i]? =some [.bool s,.slice A1 l1 c1,.bool s2,.slice A2 l2 c2]:=by rw[List.getElem?_set_self hlt];rfl
 have r2:=r1.set 1 g1 (by omega) (.slice A l c);rw[List.set_set] at r2;have g2:(rows.set i ([Value.bool s,.slice A1 l1 c1,.bool s2,.slice A2 l2 c2].set 1 (.slice A l c)))[i]? =some [.bool s,.slice A l c,.bool s2,.slice A2 l2 c2]:=by rw[List.getElem?_set_self hlt];rfl
 have r3:=r2.set 2 g2 (by omega) (.bool s');rw[List.set_set] at r3;have g3:(rows.set i ([Value.bool s,.slice A l c,.bool s2,.slice A2 l2 c2].set 2 (.bool s')))[i]? =some [.bool s,.slice A l c,.bool s',.slice A2 l2 c2]:=by rw[List.getElem?_set_self hlt];rfl
 have r4:=r3.set 3 g3 (by omega) (.slice A' l' c');rw[List.set_set] at r4
 have hk:Keep w ((((w.setCell ⟨b,i*4,none⟩ (.bool s)).setCell ⟨b,i*4+1,none⟩ (.slice A l c)).setCell ⟨b,i*4+2,none⟩ (.bool s')).setCell ⟨b,i*4+3,none⟩ (.slice A' l' c')):=
  (((Keep.put (hr.cell 0 h1 rfl) (NoInt.bool _) _).trans (Keep.put (r1.cell 1 g1 rfl) (NoInt.slice _ _ _) _)).trans (Keep.put (r2.cell 2 g2 rfl) (NoInt.bool _) _)).trans (Keep.put (r3.cell 3 g3 rfl) (NoInt.slice _ _ _) _)
 refine⟨⟨_,r4,by simpa using hl,fun j m hj=> ?_⟩,hk,fun g hg=> ?_,by simp,rfl,rfl,rfl⟩
 ·by_cases e:i=j
  ·subst e;rw[List.getElem?_set_self hi] at hj;injection hj with hj;subst hj;exact⟨s,A,l,c,s',A',l',c',by rw[List.getElem?_set_self hlt];rfl,hn.keep hk⟩
  ·rw[List.getElem?_set_ne e] at hj;obtain⟨a1,a2,a3,a4,a5,a6,a7,a8,k1,k2⟩:=hir j m hj;exact⟨a1,a2,a3,a4,a5,a6,a7,a8,by rw[List.getElem?_set_ne e];exact k1,k2.keep hk⟩
 ·rw[Below.heap_setCell _ ⟨b,i*4+3,none⟩ _ g hg,Below.heap_setCell _ ⟨b,i*4+2,none⟩ _ g hg,Below.heap_setCell _ ⟨b,i*4+1,none⟩ _ g hg,Below.heap_setCell _ ⟨b,i*4,none⟩ _ g hg]
theorem RatAt.zero (w:World):RatAt w (.agg #[.bool false,.slice none 0 0,.bool false,.slice none 0 0]) 0:=RatAt.of (IntAt.zero w) (IntAt.zero w) rfl rfl
theorem OwnR.made {n:Nat} (h:Rw w b 4 (List.replicate n [.bool false,.slice none 0 0,.bool false,.slice none 0 0]) 83):OwnR w b (List.replicate n 0):=
 ⟨_,h,by simp,fun i m hi=>⟨false,none,0,0,false,none,0,0,by
  have:=(List.getElem?_eq_some_iff.1 hi).1;rw[List.length_replicate] at this;rw[List.getElem?_replicate,if_pos this],by
  have:=List.getElem?_replicate (n:=n) (a:=(0:Rat)) (i:=i);rw[hi] at this;split at this
  ·injection this with this;subst this;exact RatAt.zero w
  ·cases this⟩⟩
end
def StrsAt (w:World) (v:Value) (ls:List (List UInt8)):Prop:=∃A c,v= .slice A ls.length c∧ls.length≤c∧(ls=[]∨∃b off,A=some ⟨b,off,none⟩∧b<w.heap.size∧∀(i:Nat) (l:List UInt8),ls[i]? =some l→w.cell? ⟨b,off+i,none⟩=some (.string ⟨l.toArray⟩))
theorem StrsAt.below {w w':World} {v:Value} {ls:List (List UInt8)} (h:StrsAt w v ls) (hb:Below w.heap.size w w'):StrsAt w' v ls:=by
 obtain⟨A,c,hv,hc,h⟩:=h;refine⟨A,c,hv,hc,?_⟩;rcases h with h|⟨b,off,e,hl,hi⟩
 ·exact .inl h
 ·exact .inr ⟨b,off,e,Nat.lt_of_lt_of_le hl hb.size,fun i l h=>(hb.cell (p:=⟨b,off+i,none⟩) hl).trans (hi i l h)⟩
theorem StrsAt.form {w:World} {v:Value} {ls:List (List UInt8)} (h:StrsAt w v ls):∃A c,v= .slice A ls.length c∧ls.length≤c:=by
 obtain⟨A,c,hv,hc,_⟩:=h;exact⟨A,c,hv,hc⟩
theorem StrsAt.nil (w:World) (A:Option Addr) (c:Nat):StrsAt w (.slice A 0 c) []:=⟨A,c,rfl,Nat.zero_le _,.inl rfl⟩
theorem StrsAt.at_ {w:World} {A:Option Addr} {c l:Nat} {ls:List (List UInt8)} (h:StrsAt w (.slice A l c) ls) {i:Nat} {t:List UInt8} (hi:ls[i]? =some t):
  ∃b off,A=some ⟨b,off,none⟩∧b<w.heap.size∧w.cell? ⟨b,off+i,none⟩=some (.string ⟨t.toArray⟩):=by
 obtain⟨A',c',e,hc,h⟩:=h;simp only[Value.slice.injEq] at e;obtain⟨rfl,rfl,rfl⟩:=e;rcases h with h|⟨b,off,e,hl,hir⟩
 ·rw[h] at hi;simp at hi
 ·exact⟨b,off,e,hl,hir i t hi⟩
def rd (l:List UInt8):Bool:=(aR l).isSome
def aE (ls:List (List UInt8)):List Rat:=ls.map (fun l=>(aR l).getD 0)
theorem EG (ls:List (List UInt8)) (v:Value) (w:World) (hG:Glob w) (hv:StrsAt w v ls) (hl:ls.length≤1073741824) (hll:∀l∈ls,l.length≤1073741824):
  Calls Tryz.prog 59 #[v] w fun e w'=>∃v',e= .returned (.tuple #[v',.bool (ls.all rd)])∧(ls.all rd=true→∃g,v'= .slice (some ⟨g,0,none⟩) ls.length ls.length∧w.heap.size≤g∧OwnR w' g (aE ls))∧Below w.heap.size w w':=by
 obtain⟨A,c,rfl,hc⟩:=hv.form;have hzl:(aE ls).length=ls.length:=List.length_map _;have HZL:=Lib.hid hzl;clear hzl;go_enter Tryz.func59,Tryz.ntmps59;go_wp2_with (at_make;refine eZ rfl rfl 83 _ 4 64 Tryz.underlying76 rU rfl (by decide) ls.length rfl rfl rfl rfl (by omega) (by omega) ?_;intro w1 hz1 hr1 hb1);have R0:=OwnR.made hr1;clear hr1 hz1;go_loopg [14] ls.length (fun k i wr=>∃j,Hid (j+k=ls.length)∧i= .int .i64 j∧OwnR wr w.heap.size ((aE ls).take j++List.replicate k 0)∧Hid ((ls.take j).all rd=true)∧Below w.heap.size w wr)
 case atStart=>exact⟨0,by unfold Hid;omega,rfl,by simpa using R0,by unfold Hid;simp,hb1⟩
 case round=>
  clear R0 hb1;obtain⟨j,HJ,rfl,R,HA,hb⟩:=hrel;generalize wr=wx at *;have hj0:(0:Int)≤(j:Int):=by omega
  cases gk with
  |zero=>
   have hj:j=ls.length:=HJ.out;have hall:ls.all rd=true:=by
    have:=HA.out;rw[hj,List.take_length] at this;exact this
   subst hj;rw[List.replicate_zero,List.append_nil,List.take_of_length_le (by rw[HZL.out];exact Nat.le_refl _)] at R;have HALL:=Lib.hid hall;clear hall HA;go_wp2_with fail;go_ret2;rw[HALL.out];exact⟨_,rfl,fun _=>⟨w.heap.size,rfl,Nat.le_refl _,R⟩,hb⟩
  |succ k=>
   obtain⟨t,ht⟩:∃t,ls[j]? =some t:=⟨_,List.getElem?_eq_getElem (by have:=HJ.out;omega)⟩;obtain⟨b,off,rfl,hbl,g0⟩:=(hv.below hb).at_ ht;have htl:=hll t (List.mem_of_getElem? ht);have hj1:(j:Int)<(ls.length:Int):=by have:=HJ.out;omega
   have hym:(aE ls)[j]? =some ((aR t).getD 0):=by unfold aE;rw[List.getElem?_map,ht];rfl
   have hfl:=kF (ys:=aE ls) (z:=(0:Rat)) (j:=j) (k:=k+1) (by rw[HZL.out];exact HJ.out);have hfs:=kC (z:=(0:Rat)) (k:=k) hym;have HFL:=Lib.hid hfl;have HFS:=Lib.hid hfs;have hgx:j<((aE ls).take j++List.replicate (k+1) 0).length:=by rw[hfl,HZL.out];have:=HJ.out;omega
   have hta:(ls.take (j+1)).all rd=rd t:=by rw[List.take_add_one,ht,Option.toList_some,List.all_append,HA.out];simp
   have hno:rd t=false→ls.all rd=false:=fun h=>by
    rw[List.all_eq_false];exact⟨t,List.mem_of_getElem? ht,by rw[h];simp⟩
   have HTA:=Lib.hid hta;have HNO:=Lib.hid hno;clear hym hfl hfs hta hno ht;go_wp2_with fail;refine(EU t _ (hG.below hb) htl).mono ?_;rintro e2 w2 ⟨v2,rfl,h2,hb2⟩;obtain⟨s2,A2,k2,c2,s3,A3,k3,c3,rfl⟩:=h2.form;replace R:=R.below hb2;replace hb:=aB hb hb2;have hrs:(aR t).isSome=rd t:=rfl;rw[hrs];cases hrd:rd t with
   |false=>
    have HN:=Lib.hid (HNO.out hrd);clear HNO HTA hrd hrs;go_wp2_with fail;go_ret2;rw[HN.out];exact⟨_,rfl,(fun h=>by cases h),hb.alloc hb.size _⟩
   |true=>
    rw[hrd] at HTA;clear HNO hrd hrs;replace R:=R.below ((Below.refl w2.heap.size w2).alloc (Nat.le_refl _) (.cells #[.bool s2,.slice A2 k2 c2,.bool s3,.slice A3 k3 c3] 83));replace h2:=h2.keep (Keep.alloc w2 (.cells #[.bool s2,.slice A2 k2 c2,.bool s3,.slice A3 k3 c3] 83));have hb3:=hb.alloc hb.size (.cells #[.bool s2,.slice A2 k2 c2,.bool s3,.slice A3 k3 c3] 83);obtain⟨s',B',l',d',s'',B'',l'',d'',q0,q1,q2,q3, -⟩:=R.at_ (List.getElem?_eq_getElem hgx);have f0:=R.free (j*4);have f1:=R.free (j*4+1);have f2:=R.free (j*4+2);have f3:=R.free (j*4+3);go_wp2_with fail;obtain⟨hp,hst⟩:=R.stored hgx h2;rw[HFS.out] at hp;have hb':=dE hb3 hst (Nat.le_refl _);go_roundg k
    case rel=>exact⟨j+1,by have:=HJ.out;unfold Hid;omega,by go_num,hp,HTA,hb'⟩
    case measure=>omega
theorem OU (ls:List (List UInt8)) (v:Value) (w:World) (hG:Glob w) (hv:StrsAt w v ls) (hl:ls.length≤1073741824) (hll:∀l∈ls,l.length≤1073741824):
  Calls Tryz.prog 59 #[v] w fun e w'=>∃v',e= .returned (.tuple #[v',.bool (ls.all rd)])∧(ls.all rd=true→RatsAt w' v' (aE ls))∧Below w.heap.size w w':=
 (EG ls v w hG hv hl hll).mono (fun e w' ⟨v',he,h,hb⟩=>⟨v',he,fun ha=>by
  obtain⟨g,rfl, -,R⟩:=h ha;have hn:(aE ls).length=ls.length:=List.length_map _;have:=R.rats ls.length (by rw[hn];exact Nat.le_refl _);rw[hn] at this;exact this,hb⟩)
theorem EE (q:Rat) (v:Value) (w:World) (hq:RatAt w v q) (hl:nl q.num.natAbs≤17592186044416):
  Calls Tryz.prog 89 #[v] w fun e w'=>e= .returned (.bool (decide (q=0)))∧Below w.heap.size w w':=by
 obtain⟨s,A,k,c,s',A',k',c',rfl⟩:=hq.form;have B1:Bx (w.alloc (.cells #[.bool s,.slice A k c,.bool s',.slice A' k' c'] 83)) (w.heap.size) [.bool s,.slice A k c,.bool s',.slice A' k' c'] 83:=Bx.newAt w [.bool s,.slice A k c,.bool s',.slice A' k' c'] 83 (w.heap.size) (by simp);have hb:Below w.heap.size w (w.alloc (.cells #[.bool s,.slice A k c,.bool s',.slice A' k' c'] 83)):=(Below.refl _ _).alloc (by simp) _;go_enter Tryz.func89,Tryz.ntmps89;go_wp2_with fail;generalize w.alloc (.cells #[.bool s,.slice A k c,.bool s',.slice A' k' c'] 83)=W at *;have h:=(hq.below hb).num;refine(cU _ _ _ h hl).mono ?_;rintro e1 w1 ⟨rfl,hb1⟩;go_wp2;go_ret;exact⟨rfl,aB hb hb1⟩
theorem OR (n:Int):Lib.itoa n=fG n:=by
 unfold Lib.itoa fG;by_cases h:n<0
 ·rw[if_pos h,if_pos h];rfl
 ·rw[if_neg h,if_neg h,List.nil_append,show n.toNat=n.natAbs by omega]
theorem OS (n:Int) (h0: -9223372036854775808≤n) (h1:n≤9223372036854775807) (w:World) (hG:Glob w):
  Calls Tryz.prog 116 #[.int .i64 n] w fun e w'=>e= .returned (.string ⟨(fG n).toArray⟩)∧Below w.heap.size w w':=by
 have hf:=Tryz.strconv_FormatInt_10 n h0 h1 w hG.pow;rw[OR] at hf;go_enter Tryz.func116,Tryz.ntmps116;go_wp2_with fail;refine hf.mono ?_;rintro e w1 ⟨rfl,k,os,hw⟩;have hb:Below w.heap.size w w1:=by rw[hw];exact Lib.below_grow w.heap.size w (Nat.le_refl _) k os
 clear hw;go_wp2;go_ret;exact⟨rfl,hb⟩
theorem tT (n K:Nat) (h:nl n≤K):(Lib.decDigits n).length≤20*K+1:=by
 rw[Lib.decDigits_length];refine oT ?_ (by omega);refine Nat.lt_of_lt_of_le (bG n) ?_;have h1:BN^nl n≤BN^K:=Nat.pow_le_pow_right (by decide) h;have h2:BN^K≤(10^20)^K:=Nat.pow_le_pow_left (by decide) K;rw[←Nat.pow_mul] at h2;have h3:10^(20*K)≤10^(20*K+1):=Nat.pow_le_pow_right (by decide) (by omega);omega
theorem OT (x:Int) (K:Nat) (h:nl x.natAbs≤K):(fG x).length≤20*K+2:=by
 unfold fG;have:=tT x.natAbs K h;rw[List.length_append];split<;>simp<;>omega
theorem EF (q:Rat) (v:Value) (w:World) (hG:Glob w) (hq:RatAt w v q) (K:Nat) (hK:RL K q) (hK2:K≤1073741824):
  Calls Tryz.prog 69 #[v] w fun e w'=>e= .returned (.string ⟨(aO q).toArray⟩)∧Below w.heap.size w w':=by
 obtain⟨s,A,k,c,s',A',k',c',rfl⟩:=hq.form;obtain⟨hK1,hKd⟩:=hK;have hdl:=lO q;have B1:Bx (w.alloc (.cells #[.bool s,.slice A k c,.bool s',.slice A' k' c'] 83)) (w.heap.size) [.bool s,.slice A k c,.bool s',.slice A' k' c'] 83:=Bx.newAt w [.bool s,.slice A k c,.bool s',.slice A' k' c'] 83 (w.heap.size) (by simp);have hb:Below w.heap.size w (w.alloc (.cells #[.bool s,.slice A k c,.bool s',.slice A' k' c'] 83)):=(Below.refl _ _).alloc (by simp) _;go_enter Tryz.func69,Tryz.ntmps69;go_wp2_with fail;generalize w.alloc (.cells #[.bool s,.slice A k c,.bool s',.slice A' k' c'] 83)=W at *;have hn:=(hq.below hb).num;have hd:=(hq.below hb).den;refine(cU _ _ _ hd (by omega)).mono ?_;rintro e1 w1 ⟨rfl,hb1⟩;replace B1:=B1.below hb1;replace B1_0:=B1.cell 0 rfl;replace B1_1:=B1.cell 1 rfl;replace B1_2:=B1.cell 2 rfl;replace B1_3:=B1.cell 3 rfl;replace hk:=Keep.below hb1;replace hn:=hn.keep hk;replace hd:=hd.keep hk;replace hb:=aB hb hb1;by_cases h1:aS q=0
 ·have hdd:decide (aS q=0)=true:=by simpa using h1
  have htx:aO q=fG q.num:=by unfold aO fG;rw[if_pos (dH.1 h1),List.append_nil]
  have HTX:=Lib.hid htx;rw[hdd];clear hdd h1 htx;go_wp2_with fail;refine(JH _ _ _ hn (by omega)).mono ?_;rintro e2 w2 ⟨rfl,hb2⟩;replace B1:=B1.below hb2;replace B1_0:=B1.cell 0 rfl;replace B1_1:=B1.cell 1 rfl;replace B1_2:=B1.cell 2 rfl;replace B1_3:=B1.cell 3 rfl;replace hk:=Keep.below hb2;replace hn:=hn.keep hk;replace hd:=hd.keep hk;replace hb:=aB hb hb2;cases hf:gL q.num with
  |true=>
   rw[if_pos rfl];have hf2: -9223372036854775808≤q.num∧q.num≤9223372036854775807:=by unfold gL at hf;simpa using hf
   clear hf;go_wp2_with fail;refine(OS q.num hf2.1 hf2.2 _ (hG.below hb)).mono ?_;rintro e3 w3 ⟨rfl,hb3⟩;go_wp2;go_ret;rw[HTX.out];exact⟨rfl,aB hb hb3⟩
  |false=>
   clear hf;go_wp2_with fail;refine(OV q.num _ _ (hG.below hb) hn (by omega)).mono ?_;rintro e3 w3 ⟨rfl,hb3⟩;go_wp2;go_ret;rw[HTX.out];exact⟨rfl,aB hb hb3⟩
 ·have hdd:decide (aS q=0)=false:=by simpa using h1
  have hd1:q.den≠1:=fun e=>h1 (dH.2 e);have hde:aS q=q.den:=iS hd1;have hdx:fG (aS q)=Lib.decDigits q.den:=by unfold fG;rw[hde,if_neg (by omega)];rfl
  have htx:aO q=(fG q.num++[47])++fG (aS q):=by unfold aO;rw[hdx,if_neg hd1];unfold fG;simp
  have HTX:=Lib.hid htx;have hln:=OT q.num K hK1;rw[hdd];clear hdd h1 htx hdx hde hd1;go_wp2_with fail;refine(xU w1.heap.size (.slice none 0 0) [] q.num s A k c w1 (hG.below hb).globB (Nat.le_refl _) (TxtAt.nil _ _) hn (Apart.nil _) (by omega) (by simp)).mono ?_;rintro e7 w7 ⟨v7,rfl,h7,t7⟩;rw[List.nil_append] at h7;have hdb1:=hd.blk;have hb01:=hb;have hG1:=(hG.below hb).globB;have B1L1:=B1.lt;have hb7:Below w1.heap.size w1 w7:=t7.belowB (Nat.le_refl _) (fun g e=>by simp[Value.ownBlock] at e);have hsz7:=hb7.size;replace B1:=B1.below hb7;replace B1_0:=B1.cell 0 rfl;replace B1_1:=B1.cell 1 rfl;replace B1_2:=B1.cell 2 rfl;replace B1_3:=B1.cell 3 rfl;replace hk:=Keep.below hb7;replace hd:=hd.keep hk;replace hb:=aB hb hb7;have h7w:=h7;unfold TxtAt at h7;have hv7:=h7w.lt;have n7:v7.ownBlock≠some w.heap.size:=fun e=>by have:=(hv7 _ e).1;omega
  have ha7:Apart v7 (.slice A' k' c'):=fun g e e'=>by have:=(hv7 g e).1;have:=hdb1 g e';omega
  go_wp2_with (at_builtin;refine eJ rfl rfl 5 _ 1 1 Tryz.underlying137 jU rfl (by decide) w1.heap.size v7 (fG q.num).length _ rfl (h7.alloc _) [Value.int .u8 47] rfl (by simp) (iD _ _ _) (by simp[Value.oneCell']) (by omega) (by omega) (by simp;omega) ?_;intro q1 w8 ho1 hg1 hat1;have hm:=TxtAt.more (bs:=fG q.num) (l:=[47]) ho1 hg1 hat1;replace B1:=B1.txt hm.2 n7;replace B1_2:=B1.cell 2 rfl;replace B1_3:=B1.cell 3 rfl);have hd8:IntAt w8 (.agg #[.bool s',.slice A' k' c']) (aS q):=IntAt.of (hd.words.txt hm.2 ha7) hd.neg;have hb78:Below w1.heap.size w7 w8:=hm.2.belowB hsz7 (fun g e=>(hv7 g e).1);have hb18:Below w1.heap.size w1 w8:=hb7.trans hb78;refine(xU w1.heap.size q1 (fG q.num++[47]) (aS q) s' A' k' c' w8 (hG1.on hb18) hb18.size hm.1 hd8 (hm.2.apart ha7 (fun g e=>Nat.lt_of_lt_of_le (hdb1 g e) hsz7)) (by omega) (by simp;omega)).mono ?_;rintro e9 w9 ⟨v9,rfl,h9,t9⟩;rw[←HTX.out] at h9;have hc:=h9.str;have hb19:=hb18.trans (t9.belowB hb18.size (fun g e=>(hm.1.lt g e).1));go_wp2;go_ret;exact⟨rfl,aB hb01 hb19⟩
theorem ED:(Tryz.prog.info? 9).map (fun i=>(i.zero,i.size,i.bytes))=some (some (.string ⟨#[]⟩),1,16):=by kernel_rfl
def OwnS (w:World) (b:Nat) (ls:List (List UInt8)):Prop:=∃cs,Bx w b cs 9∧ls.length≤cs.length∧∀(i:Nat) (l:List UInt8),ls[i]? =some l→cs[i]? =some (Value.string ⟨l.toArray⟩)
section
variable {w w':World} {b:Nat} {ls:List (List UInt8)}
theorem OwnS.below (h:OwnS w b ls) (hb:Below w.heap.size w w'):OwnS w' b ls:=by
 obtain⟨cs,h1,h2,h3⟩:=h;exact⟨cs,h1.below hb,h2,h3⟩
theorem OwnS.made {n:Nat} (h:Rw w b 1 (List.replicate n [.string ⟨#[]⟩]) 9):OwnS w b (List.replicate n []):=by
 have e:(List.replicate n [Value.string ⟨#[]⟩]).flatten=List.replicate n (Value.string ⟨#[]⟩):=by
  induction n with
  |zero=>rfl
  |succ n ih=>simp[List.replicate_succ]
 refine⟨_,by have:=h.1;rw[e] at this;exact this,by simp,fun i l hi=> ?_⟩;have h1:=(List.getElem?_eq_some_iff.1 hi).1;rw[List.length_replicate] at h1;rw[List.getElem?_replicate,if_pos h1] at hi⊢;injection hi with hi;rw[←hi]
theorem OwnS.at_ (h:OwnS w b ls) {i:Nat} {l:List UInt8} (hi:ls[i]? =some l):w.cell? ⟨b,i,none⟩=some (.string ⟨l.toArray⟩):=by
 obtain⟨cs,h1,h2,h3⟩:=h;exact h1.cell i (h3 i l hi)
theorem OwnS.free (h:OwnS w b ls) (j:Nat):w.frozen? ⟨b,j,none⟩=false:=by
 obtain⟨cs,h1,_⟩:=h;exact h1.free j
theorem OwnS.strs (h:OwnS w b ls) (c:Nat) (hc:ls.length≤c):StrsAt w (.slice (some ⟨b,0,none⟩) ls.length c) ls:=by
 obtain⟨cs,h1,h2,h3⟩:=h;exact⟨_,c,rfl,hc,.inr ⟨b,0,rfl,h1.lt,fun i l hi=>by rw[Nat.zero_add];exact h1.cell i (h3 i l hi)⟩⟩
theorem OwnS.stored (h:OwnS w b ls) {i:Nat} (hi:i<ls.length) (l:List UInt8):OwnS (w.setCell ⟨b,i,none⟩ (.string ⟨l.toArray⟩)) b (ls.set i l)∧jJ b w (w.setCell ⟨b,i,none⟩ (.string ⟨l.toArray⟩)):=by
 obtain⟨cs,h1,h2,h3⟩:=h;have hc:=h1.cell i (h3 i _ (List.getElem?_eq_getElem hi));refine⟨⟨cs.set i (.string ⟨l.toArray⟩),h1.set i _,by simpa using h2,fun j t hj=> ?_⟩,Keep.put hc (NoInt.string _) _,fun g hg=>Below.heap_setCell _ ⟨b,i,none⟩ _ g hg,by simp,rfl,rfl,rfl⟩;by_cases e:i=j
 ·subst e;rw[List.getElem?_set_self hi] at hj;injection hj with hj;subst hj;rw[List.getElem?_set_self (by omega)]
 ·rw[List.getElem?_set_ne e] at hj⊢;exact h3 j t hj
end
theorem xT (qs:List Rat) (v:Value) (w:World) (hG:Glob w) (hv:RatsAt w v qs) (K:Nat) (hK:∀q∈qs,RL K q) (hK2:K≤1073741824) (hl:qs.length≤1073741824):
  Calls Tryz.prog 98 #[v] w fun e w'=>∃v',e= .returned v'∧StrsAt w' v' (qs.map aO)∧Below w.heap.size w w':=by
 obtain⟨A,c,rfl,hc⟩:=hv.form;have hzl:(qs.map aO).length=qs.length:=List.length_map _;have HZL:=Lib.hid hzl;clear hzl;go_enter Tryz.func98,Tryz.ntmps98;go_wp2_with (at_make;refine eZ rfl rfl 9 _ 1 16 Tryz.underlying22 ED rfl (by decide) qs.length rfl rfl rfl rfl (by omega) (by omega) ?_;intro w1 hz1 hr1 hb1);have R0:=OwnS.made hr1;clear hr1 hz1;go_loopg [11] qs.length (fun k i wr=>∃j,Hid (j+k=qs.length)∧i= .int .i64 j∧OwnS wr w.heap.size ((qs.map aO).take j++List.replicate k [])∧Below w.heap.size w wr)
 case atStart=>exact⟨0,by unfold Hid;omega,rfl,by simpa using R0,hb1⟩
 case round=>
  clear R0 hb1;obtain⟨j,HJ,rfl,R,hb⟩:=hrel;generalize wr=wx at *;have hj0:(0:Int)≤(j:Int):=by omega
  cases gk with
  |zero=>
   have hj:j=qs.length:=HJ.out;subst hj;rw[List.replicate_zero,List.append_nil,List.take_of_length_le (by rw[HZL.out];exact Nat.le_refl _)] at R;have hw:=R.strs qs.length (by rw[HZL.out];exact Nat.le_refl _);rw[HZL.out] at hw;go_wp2_with fail;go_ret;exact⟨_,rfl,hw,hb⟩
  |succ k=>
   obtain⟨q,hq⟩:∃q,qs[j]? =some q:=⟨_,List.getElem?_eq_getElem (by have:=HJ.out;omega)⟩;obtain⟨b,s,B,m,d,s',B',m',d',rfl,hbl,g0,g1,g2,g3,hi⟩:=(hv.below hb).at_ hq;have hKq:=hK q (List.mem_of_getElem? hq);have hj1:(j:Int)<(qs.length:Int):=by have:=HJ.out;omega
   have hym:(qs.map aO)[j]? =some (aO q):=by rw[List.getElem?_map,hq];rfl
   have hfl:=kF (ys:=qs.map aO) (z:=([]:List UInt8)) (j:=j) (k:=k+1) (by rw[HZL.out];exact HJ.out);have hfs:=kC (z:=([]:List UInt8)) (k:=k) hym;have hgx:j<((qs.map aO).take j++List.replicate (k+1) []).length:=by rw[hfl,HZL.out];have:=HJ.out;omega
   have HFS:=Lib.hid hfs;clear hym hfl hfs hq;go_wp2_with fail;have hbA:Below wx.heap.size wx (wx.alloc (.cells #[.bool s,.slice B m d,.bool s',.slice B' m' d'] 83)):=(Below.refl _ _).alloc (Nat.le_refl _) _;replace hi:=hi.below hbA;replace R:=R.below hbA;replace hb:=aB hb hbA;generalize wx.alloc (.cells #[.bool s,.slice B m d,.bool s',.slice B' m' d'] 83)=wa at *;refine(EF q _ _ (hG.below hb) hi K hKq hK2).mono ?_;rintro e2 w2 ⟨rfl,hb2⟩;replace R:=R.below hb2;replace hb:=aB hb hb2;have q0:=R.at_ (List.getElem?_eq_getElem hgx);have f0:=R.free j;generalize aO q=tx at *;go_wp2_with fail;obtain⟨hp,hst⟩:=R.stored hgx tx;rw[HFS.out] at hp;have hb':=dE hb hst (Nat.le_refl _);go_roundg k
   case rel=>exact⟨j+1,by have:=HJ.out;unfold Hid;omega,by go_num,hp,hb'⟩
   case measure=>omega
theorem OO (a b:Nat):nl (Nat.lcm a b)≤nl a+nl b:=by
 refine Nat.le_trans (aX ?_) (cJ a b);unfold Nat.lcm;exact Nat.div_le_self _ _
structure ComDen (qs:List Rat) (D:Int) (B:Nat):Prop where
 pos:0<D
 dvd:∀q∈qs,(q.den:Int)∣D
 nl_:nl D.natAbs≤B
def OP (w:World) (qs:List Rat) (B:Nat) (e:Ending) (w':World):Prop:=∃v D,e= .returned v∧IntAt w' v D∧ComDen qs D B∧Below w.heap.size w w'
theorem ComDen.skip {qs:List Rat} {D:Int} {j K:Nat} {q:Rat} (h:ComDen (qs.take j) D (1+j*K)) (hq:qs[j]? =some q) (hd:(q.den:Int)∣D):ComDen (qs.take (j+1)) D (1+(j+1)*K):=by
 refine⟨h.pos,fun x hx=> ?_,by have:=h.nl_;rw[Nat.succ_mul];omega⟩;rw[List.take_add_one,hq,Option.toList_some] at hx;rcases List.mem_append.1 hx with hx|hx
 ·exact h.dvd x hx
 ·simp at hx;subst hx;exact hd
theorem ComDen.lcm {qs:List Rat} {D:Int} {j K:Nat} {q:Rat} (h:ComDen (qs.take j) D (1+j*K)) (hq:qs[j]? =some q) (hK:nl q.den≤K):ComDen (qs.take (j+1)) ((Nat.lcm D.natAbs q.den:Nat):Int) (1+(j+1)*K):=by
 have hD:=h.pos;have h0:Nat.lcm D.natAbs q.den≠0:=Nat.lcm_ne_zero (by omega) q.den_nz;refine⟨by omega,fun x hx=> ?_,?_⟩
 ·rw[List.take_add_one,hq,Option.toList_some] at hx;rcases List.mem_append.1 hx with hx|hx
  ·have h1:=h.dvd x hx;refine Int.ofNat_dvd.2 (Nat.dvd_trans ?_ (Nat.dvd_lcm_left _ _));exact Int.ofNat_dvd_left.1 h1
  ·simp at hx;subst hx;exact Int.ofNat_dvd.2 (Nat.dvd_lcm_right _ _)
 ·rw[Int.natAbs_natCast,Nat.succ_mul];have:=OO D.natAbs q.den;have:=h.nl_;omega
theorem OQ (qs:List Rat) (v:Value) (w:World) (hG:Glob w) (hv:RatsAt w v qs) (K KB:Nat) (hK:∀q∈qs,RL K q) (hl:qs.length≤1073741824) (hKB:1+qs.length*K≤KB) (hKB1:K≤KB) (hKB2:5*KB+4≤aF):
  Calls Tryz.prog 135 #[v] w (OP w qs (1+qs.length*K)):=by
 obtain⟨A,c,rfl,hc⟩:=hv.form;have R:Bx (w.alloc (.cells #[.bool false,.slice none 0 0] 53)) (w.heap.size) [.bool false,.slice none 0 0] 53:=Bx.newAt w [.bool false,.slice none 0 0] 53 (w.heap.size) (by simp);have hb:Below w.heap.size w (w.alloc (.cells #[.bool false,.slice none 0 0] 53)):=(Below.refl _ _).alloc (by simp) _;go_enter Tryz.func135,Tryz.ntmps135;go_wp2_with fail;generalize w.alloc (.cells #[.bool false,.slice none 0 0] 53)=W at *;refine(jK 1 _ (by decide) (by decide)).mono ?_;rintro e1 w1 ⟨v1,rfl,h1,hb1⟩;obtain⟨s1,A1,k1,c1,rfl⟩:=h1.form;replace R:=R.below hb1;replace R_0:=R.cell 0 rfl;replace R_f0:=R.free 0;replace R_1:=R.cell 1 rfl;replace R_f1:=R.free 1;replace hk:=Keep.below hb1;replace hb:=aB hb hb1;go_wp2_with fail;have R_ltw1:=R.lt;have hszw1:=hb.size;replace R:=R.alloc (.cells #[.bool s1,.slice A1 k1 c1] 53);have C:=Bx.newAt w1 [.bool s1,.slice A1 k1 c1] 53 (w1.heap.size) (by simp);replace hb:=hb.alloc hb.size (.cells #[.bool s1,.slice A1 k1 c1] 53);replace hk:=Keep.alloc w1 (.cells #[.bool s1,.slice A1 k1 c1] 53);replace h1:=h1.keep hk;generalize w1.alloc (.cells #[.bool s1,.slice A1 k1 c1] 53)=w2 at *;replace R_0:=R.cell 0 rfl;replace R_1:=R.cell 1 rfl;replace C_0:=C.cell 0 rfl;replace C_1:=C.cell 1 rfl;have hC0:IntBx w2 w1.heap.size 1:=⟨_,_,_,_,C,h1⟩;have hR0:=R;have hb0:=hb;have hlt:=R_ltw1;clear R C h1 R_0 R_1 R_f0 R_f1 C_0 C_1 hk hb;go_loopg [9] qs.length (fun k i wr=>∃j D,Hid (j+k=qs.length)∧i= .int .i64 j∧IntBx wr w1.heap.size D∧ComDen (qs.take j) D (1+j*K)∧Bx wr w.heap.size [.bool false,.slice none 0 0] 53∧Below w.heap.size w wr)
 case atStart=>exact⟨0,1,by unfold Hid;omega,rfl,hC0,⟨by decide,(fun q h=>by simp at h),by rw[show nl (1:Int).natAbs=1 from gM (by decide) (by decide)];omega⟩,hR0,hb0⟩
 case round=>
  clear hC0 hR0 hb0;obtain⟨j,D,HJ,rfl,hC,hcd,R,hb⟩:=hrel;generalize wr=wx at *;have hj0:(0:Int)≤(j:Int):=by omega
  have hjK:1+j*K≤KB:=by
   have:j*K≤qs.length*K:=Nat.mul_le_mul_right _ (by have:=HJ.out;omega);omega
  have hDK:=hcd.nl_;have hDp:=hcd.pos;obtain⟨sc,Ac,kc,cc,C,hD⟩:=id hC;cases gk with
  |zero=>
   have hj:j=qs.length:=HJ.out;have hcd':ComDen qs D (1+qs.length*K):=by
    have:=hcd;rw[hj,List.take_length] at this;exact this
   replace R_0:=R.cell 0 rfl;replace R_f0:=R.free 0;replace R_1:=R.cell 1 rfl;replace R_f1:=R.free 1;replace C_0:=C.cell 0 rfl;replace C_f0:=C.free 0;replace C_1:=C.cell 1 rfl;replace C_f1:=C.free 1;have hjn:¬(j:Int)<(qs.length:Int):=by omega
   clear hcd hj HJ;go_wp2_with fail;have R_ltwx:=R.lt;have C_ltwx:=C.lt;have hszwx:=hb.size;replace C:=(C.far 0 (.bool sc) (show w.heap.size≠w1.heap.size by omega)).far 1 (.slice Ac kc cc) (show w.heap.size≠w1.heap.size by omega);replace hk:=gE (s:=sc) (u:= .slice Ac kc cc) hb (by omega) R;clear R hb;obtain⟨-, -,R,hb,hk⟩:=hk;replace hD:=hD.keep hk;generalize (wx.setCell ⟨w.heap.size,0,none⟩ (.bool sc)).setCell ⟨w.heap.size,1,none⟩ (.slice Ac kc cc)=W6 at *;replace R_0:=R.cell 0 rfl;replace R_1:=R.cell 1 rfl;replace C_0:=C.cell 0 rfl;replace C_1:=C.cell 1 rfl;exact bodyPost_ret (v:= .agg #[.bool sc,.slice Ac kc cc]) (by simp[results,Tryz.results135,go_sem,R_0,R_1]) rfl ⟨_,D,rfl,hD,hcd',hb⟩
  |succ k=>
   obtain⟨q,hq⟩:∃q,qs[j]? =some q:=⟨_,List.getElem?_eq_getElem (by have:=HJ.out;omega)⟩;obtain⟨b,s,B,m,d,s',B',m',d',rfl,hbl,g0,g1,g2,g3,hi⟩:=(hv.below hb).at_ hq;have hKq:=hK q (List.mem_of_getElem? hq);have hKd:=lO q;have hKq2:=hKq.2;have hj1:(j:Int)<(qs.length:Int):=by have:=HJ.out;omega
   have hsk:=fun hd=>hcd.skip hq hd;have hlc:=hcd.lcm hq hKq.2;have HQ:=Lib.hid hq;clear hq;go_wp2_with fail;have R_ltwx:=R.lt;have C_ltwx:=C.lt;have hszwx:=hb.size;replace R:=R.alloc (.cells #[.bool s,.slice B m d,.bool s',.slice B' m' d'] 83);replace C:=C.alloc (.cells #[.bool s,.slice B m d,.bool s',.slice B' m' d'] 83);have X:=Bx.newAt wx [.bool s,.slice B m d,.bool s',.slice B' m' d'] 83 (wx.heap.size) (by simp);replace hb:=hb.alloc hb.size (.cells #[.bool s,.slice B m d,.bool s',.slice B' m' d'] 83);replace hk:=Keep.alloc wx (.cells #[.bool s,.slice B m d,.bool s',.slice B' m' d'] 83);replace hi:=hi.keep hk;replace hD:=hD.keep hk;generalize wx.alloc (.cells #[.bool s,.slice B m d,.bool s',.slice B' m' d'] 83)=wa at *;replace R_0:=R.cell 0 rfl;replace R_1:=R.cell 1 rfl;replace C_0:=C.cell 0 rfl;replace C_1:=C.cell 1 rfl;replace X_0:=X.cell 0 rfl;replace X_1:=X.cell 1 rfl;replace X_2:=X.cell 2 rfl;replace X_3:=X.cell 3 rfl;have hdn:=hi.den;refine(cU _ _ _ hdn (by unfold aF at hKB2;omega)).mono ?_;rintro e2 w2' ⟨rfl,hb2⟩;replace R:=R.below hb2;replace R_0:=R.cell 0 rfl;replace R_1:=R.cell 1 rfl;replace C:=C.below hb2;replace C_0:=C.cell 0 rfl;replace C_1:=C.cell 1 rfl;replace X:=X.below hb2;replace X_0:=X.cell 0 rfl;replace X_1:=X.cell 1 rfl;replace X_2:=X.cell 2 rfl;replace X_3:=X.cell 3 rfl;replace hk:=Keep.below hb2;replace hi:=hi.keep hk;replace hD:=hD.keep hk;replace hdn:=hdn.keep hk;replace hb:=aB hb hb2;by_cases h0:aS q=0
   ·have hdd:decide (aS q=0)=true:=by simpa using h0
    rw[hdd];have hd1:=hsk (by rw[dH.1 h0];exact Int.one_dvd _);clear hdd h0 hsk hlc;go_wp2_with fail;go_roundg k
    case rel=>exact⟨j+1,D,by have:=HJ.out;unfold Hid;omega,by go_num,⟨_,_,_,_,C,hD⟩,hd1,R,hb⟩
    case measure=>omega
   ·have hdd:decide (aS q=0)=false:=by simpa using h0
    have hde:aS q=q.den:=iS (fun e=>h0 (dH.2 e));rw[hdd];clear hdd;go_wp2_with fail;refine(JI _ _ _ _ _ hdn hD (by unfold aF at hKB2;omega) (by unfold aF at hKB2;omega)).mono ?_;rintro e3 w3 ⟨rfl,hb3⟩;replace R:=R.below hb3;replace R_0:=R.cell 0 rfl;replace R_1:=R.cell 1 rfl;replace C:=C.below hb3;replace C_0:=C.cell 0 rfl;replace C_f0:=C.free 0;replace C_1:=C.cell 1 rfl;replace C_f1:=C.free 1;replace X:=X.below hb3;replace X_0:=X.cell 0 rfl;replace X_1:=X.cell 1 rfl;replace X_2:=X.cell 2 rfl;replace X_3:=X.cell 3 rfl;replace hk:=Keep.below hb3;replace hi:=hi.keep hk;replace hD:=hD.keep hk;replace hdn:=hdn.keep hk;replace hb:=aB hb hb3;by_cases he:aS q=D
    ·have hdd:decide (aS q=D)=true:=by simpa using he
     rw[hdd];have hd1:=hsk (by rw[←he,hde];exact Int.dvd_refl _);clear hdd h0 hsk hlc hde he;go_wp2_with fail;go_roundg k
     case rel=>exact⟨j+1,D,by have:=HJ.out;unfold Hid;omega,by go_num,⟨_,_,_,_,C,hD⟩,hd1,R,hb⟩
     case measure=>omega
    ·have hdd:decide (aS q=D)=false:=by simpa using he
     rw[hdd];have hlm:=fun W hG h1 h2=>JK D (aS q) (.agg #[.bool sc,.slice Ac kc cc]) (.agg #[.bool s',.slice B' m' d']) W hG h1 h2 (by omega) h0 KB (by omega) (by omega) hKB2;have e5:(aS q).natAbs=q.den:=by rw[hde];rfl
     rw[e5] at hlm;unfold bW at hlm;clear hdd hsk hde he e5;generalize ((Nat.lcm D.natAbs q.den:Nat):Int)=E at *;go_wp2_with fail;refine(hlm _ (hG.below hb) hD hdn).mono ?_;rintro e4 w4 ⟨v4,rfl,h4,hb4⟩;obtain⟨s4,A4,k4,c4,rfl⟩:=h4.form;replace R:=R.below hb4;replace R_0:=R.cell 0 rfl;replace R_1:=R.cell 1 rfl;replace C:=C.below hb4;replace C_0:=C.cell 0 rfl;replace C_f0:=C.free 0;replace C_1:=C.cell 1 rfl;replace C_f1:=C.free 1;replace X:=X.below hb4;replace X_0:=X.cell 0 rfl;replace X_1:=X.cell 1 rfl;replace X_2:=X.cell 2 rfl;replace X_3:=X.cell 3 rfl;replace hk:=Keep.below hb4;replace hb:=aB hb hb4;clear hlm;go_wp2_with fail;have R_ltw4:=R.lt;have C_ltw4:=C.lt;have X_ltw4:=X.lt;have hszw4:=hb.size;replace R:=(R.far 0 (.bool s4) (show w1.heap.size≠w.heap.size by omega)).far 1 (.slice A4 k4 c4) (show w1.heap.size≠w.heap.size by omega);replace X:=(X.far 0 (.bool s4) (show w1.heap.size≠wx.heap.size by omega)).far 1 (.slice A4 k4 c4) (show w1.heap.size≠wx.heap.size by omega);replace hk:=gE (s:=s4) (u:= .slice A4 k4 c4) hb (by omega) C;clear C hb;obtain⟨-, -,C,hb,hk⟩:=hk;replace h4:=h4.keep hk;generalize (w4.setCell ⟨w1.heap.size,0,none⟩ (.bool s4)).setCell ⟨w1.heap.size,1,none⟩ (.slice A4 k4 c4)=W6 at *;replace R_0:=R.cell 0 rfl;replace R_1:=R.cell 1 rfl;replace C_0:=C.cell 0 rfl;replace C_1:=C.cell 1 rfl;replace X_0:=X.cell 0 rfl;replace X_1:=X.cell 1 rfl;replace X_2:=X.cell 2 rfl;replace X_3:=X.cell 3 rfl;go_roundg k
     case rel=>exact⟨j+1,E,by have:=HJ.out;unfold Hid;omega,by go_num,⟨_,_,_,_,C,h4⟩,hlc,R,hb⟩
     case measure=>omega
end Go.Proofs.YtlojjipfnejbnaaGreatDoor
