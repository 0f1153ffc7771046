/-
  Contracts of functions that the statement reaches, and plain laws: RowG, RowH, RatF, RowI, Up, BxF, RatM, RatY.
-/
import Derived.Test.YtbhplgdbfmifkaaGreatDoorI19
import Derived.Test.YtbhplgdbfmifkaaGreatDoorI24
import Derived.Test.YtbhplgdbfmifkaaGreatDoorI25
set_option linter.unusedVariables false
set_option linter.unusedSimpArgs false
set_option maxHeartbeats 8000000
set_option maxRecDepth 100000
namespace Go.Proofs.YtbhplgdbfmifkaaGreatDoor
open Go.RowKit Sos
def RRow (w:World) (rows:List (List Value)) (qs:List Rat):Prop:=∀(i:Nat) (q:Rat),qs[i]? =some q→∃s A l c s' A' l' c',rows[i]? =some [Value.bool s,Value.slice A l c,Value.bool s',Value.slice A' l' c']∧RatAt w (.agg #[.bool s,.slice A l c,.bool s',.slice A' l' c']) q
theorem RRow.keep {w w':World} {rows:List (List Value)} {qs:List Rat} (h:RRow w rows qs) (hk:Keep w w'):RRow w' rows qs:=fun i q hi=>by
 obtain⟨s,A,l,c,s',A',l',c',h1,h2⟩:=h i q hi;exact⟨s,A,l,c,s',A',l',c',h1,h2.keep hk⟩
theorem RRow.take {w:World} {rows:List (List Value)} {qs:List Rat} (h:RRow w rows qs) (m:Nat):RRow w rows (qs.take m):=fun i q hi=>by
 rw[List.getElem?_take] at hi;split at hi
 ·exact h i q hi
 ·cases hi
def RatsAt (w:World) (v:Value) (qs:List Rat):Prop:=∃A c,v= .slice A qs.length c∧qs.length≤c∧(qs=[]∨∃b rows,A=some ⟨b,0,none⟩∧Rw w b 4 rows 54∧RRow w rows qs)
theorem RatsAt.below {w w':World} {v:Value} {qs:List Rat} (h:RatsAt w v qs) (hb:Below w.heap.size w w'):RatsAt w' v qs:=by
 obtain⟨A,c,hv,hc,h⟩:=h;refine⟨A,c,hv,hc,?_⟩;rcases h with h|⟨b,rows,e,hr,hi⟩
 ·exact .inl h
 ·exact .inr ⟨b,rows,e,hr.below hb,hi.keep (Keep.below hb)⟩
theorem RatsAt.nil (w:World) (A:Option Addr) (c:Nat):RatsAt w (.slice A 0 c) []:=⟨A,c,rfl,Nat.zero_le _,.inl rfl⟩
theorem RatsAt.form {w:World} {v:Value} {qs:List Rat} (h:RatsAt w v qs):∃A c,v= .slice A qs.length c∧qs.length≤c:=by
 obtain⟨A,c,hv,hc,_⟩:=h;exact⟨A,c,hv,hc⟩
theorem RatsAt.cut {w:World} {A:Option Addr} {c l:Nat} {qs:List Rat} (h:RatsAt w (.slice A l c) qs) (m:Nat) (hm:m≤qs.length):RatsAt w (.slice A m c) (qs.take m):=by
 obtain⟨A',c',e,hc,h⟩:=h;simp only[Value.slice.injEq] at e;obtain⟨rfl,rfl,rfl⟩:=e;refine⟨A,c,by rw[List.length_take,Nat.min_eq_left hm],by rw[List.length_take];omega,?_⟩;rcases h with h|⟨b,rows,e,hr,hi⟩
 ·exact .inl (by rw[h];simp)
 ·exact .inr ⟨b,rows,e,hr,hi.take m⟩
theorem RatsAt.at_ {w:World} {A:Option Addr} {c l:Nat} {qs:List Rat} (h:RatsAt w (.slice A l c) qs) {i:Nat} {q:Rat} (hi:qs[i]? =some q):
  ∃b s B m d s' B' m' d',A=some ⟨b,0,none⟩∧b<w.heap.size∧w.cell? ⟨b,i*4,none⟩=some (.bool s)∧w.cell? ⟨b,i*4+1,none⟩=some (.slice B m d)∧w.cell? ⟨b,i*4+2,none⟩=some (.bool s')∧w.cell? ⟨b,i*4+3,none⟩=some (.slice B' m' d')∧RatAt w (.agg #[.bool s,.slice B m d,.bool s',.slice B' m' d']) q:=by
 obtain⟨A',c',e,hc,h⟩:=h;simp only[Value.slice.injEq] at e;obtain⟨rfl,rfl,rfl⟩:=e;rcases h with h|⟨b,rows,e,hr,hir⟩
 ·rw[h] at hi;simp at hi
 ·obtain⟨s,B,m,d,s',B',m',d',h1,h2⟩:=hir i q hi;exact⟨b,s,B,m,d,s',B',m',d',e,hr.lt,hr.cell 0 h1 rfl,hr.cell 1 h1 rfl,hr.cell 2 h1 rfl,hr.cell 3 h1 rfl,h2⟩
def OwnR (w:World) (b:Nat) (qs:List Rat):Prop:=∃rows,Rw w b 4 rows 54∧qs.length≤rows.length∧RRow w rows qs
section
variable {w w':World} {b:Nat} {qs:List Rat}
theorem OwnR.lt (h:OwnR w b qs):b<w.heap.size:=by
 obtain⟨rows,hr,_⟩:=h;exact hr.lt
theorem OwnR.below (h:OwnR w b qs) (hb:Below w.heap.size w w'):OwnR w' b qs:=by
 obtain⟨rows,hr,hl,hi⟩:=h;exact⟨rows,hr.below hb,hl,hi.keep (Keep.below hb)⟩
theorem OwnR.step {g:Nat} (h:OwnR w b qs) (hs:jJ g w w') (hne:b≠g):OwnR w' b qs:=by
 obtain⟨rows,hr,hl,hi⟩:=h;exact⟨rows,⟨(hs.2.1 b hne).trans hr.1,hr.2⟩,hl,hi.keep hs.1⟩
theorem OwnR.rats (h:OwnR w b qs) (c:Nat) (hc:qs.length≤c):RatsAt w (.slice (some ⟨b,0,none⟩) qs.length c) qs:=by
 obtain⟨rows,hr,hl,hi⟩:=h;exact⟨_,c,rfl,hc,.inr ⟨b,rows,rfl,hr,hi⟩⟩
theorem OwnR.free (h:OwnR w b qs) (j:Nat):w.frozen? ⟨b,j,none⟩=false:=by
 obtain⟨rows,hr,_⟩:=h;exact hr.free j
theorem OwnR.at_ (h:OwnR w b qs) {i:Nat} {q:Rat} (hi:qs[i]? =some q):
  ∃s B m d s' B' m' d',w.cell? ⟨b,i*4,none⟩=some (.bool s)∧w.cell? ⟨b,i*4+1,none⟩=some (.slice B m d)∧w.cell? ⟨b,i*4+2,none⟩=some (.bool s')∧w.cell? ⟨b,i*4+3,none⟩=some (.slice B' m' d')∧RatAt w (.agg #[.bool s,.slice B m d,.bool s',.slice B' m' d']) q:=by
 obtain⟨rows,hr,hl,hir⟩:=h;obtain⟨s,B,m,d,s',B',m',d',h1,h2⟩:=hir i q hi;exact⟨s,B,m,d,s',B',m',d',hr.cell 0 h1 rfl,hr.cell 1 h1 rfl,hr.cell 2 h1 rfl,hr.cell 3 h1 rfl,h2⟩
theorem OwnR.stored (h:OwnR w b qs) {i:Nat} (hi:i<qs.length) {s s':Bool} {A A':Option Addr} {l c l' c':Nat} {q:Rat} (hn:RatAt w (.agg #[.bool s,.slice A l c,.bool s',.slice A' l' c']) q):
  let W:=(((w.setCell ⟨b,i*4,none⟩ (.bool s)).setCell ⟨b,i*4+1,none⟩ (.slice A l c)).setCell ⟨b,i*4+2,none⟩ (.bool s')).setCell ⟨b,i*4+3,none⟩ (.slice A' l' c')
  OwnR W b (qs.set i q)∧jJ b w W:=by
 obtain⟨rows,hr,hl,hir⟩:=h;obtain⟨s1,A1,l1,c1,s2,A2,l2,c2,h1,h2⟩:=hir i qs[i] (List.getElem?_eq_getElem hi);have hlt:i<rows.length:=by omega
 have r1:=hr.set 0 h1 (by omega) (.bool s);have g1:(rows.set i ([Value.bool s1,.slice A1 l1 c1,.bool s2,.slice A2 l2 c2].set 0 (.bool s)))[i]? =some [.bool s,.slice A1 l1 c1,.bool s2,.slice A2 l2 c2]:=by rw[List.getElem?_set_self hlt];rfl
 have r2:=r1.set 1 g1 (by omega) (.slice A l c);rw[List.set_set] at r2;have g2:(rows.set i ([Value.bool s,.slice A1 l1 c1,.bool s2,.slice A2 l2 c2].set 1 (.slice A l c)))[i]? =some [.bool s,.slice A l c,.bool s2,.slice A2 l2 c2]:=by rw[List.getElem?_set_self hlt];rfl
 have r3:=r2.set 2 g2 (by omega) (.bool s');rw[List.set_set] at r3;have g3:(rows.set i ([Value.bool s,.slice A l c,.bool s2,.slice A2 l2 c2].set 2 (.bool s')))[i]? =some [.bool s,.slice A l c,.bool s',.slice A2 l2 c2]:=by rw[List.getElem?_set_self hlt];rfl
 have r4:=r3.set 3 g3 (by omega) (.slice A' l' c');rw[List.set_set] at r4
 have hk:Keep w ((((w.setCell ⟨b,i*4,none⟩ (.bool s)).setCell ⟨b,i*4+1,none⟩ (.slice A l c)).setCell ⟨b,i*4+2,none⟩ (.bool s')).setCell ⟨b,i*4+3,none⟩ (.slice A' l' c')):=
  (((Keep.put (hr.cell 0 h1 rfl) (NoInt.bool _) _).trans (Keep.put (r1.cell 1 g1 rfl) (NoInt.slice _ _ _) _)).trans (Keep.put (r2.cell 2 g2 rfl) (NoInt.bool _) _)).trans (Keep.put (r3.cell 3 g3 rfl) (NoInt.slice _ _ _) _)
 refine⟨⟨_,r4,by simpa using hl,fun j m hj=> ?_⟩,hk,fun g hg=> ?_,by simp,rfl,rfl,rfl⟩
 ·by_cases e:i=j
  ·subst e;rw[List.getElem?_set_self hi] at hj;injection hj with hj;subst hj;exact⟨s,A,l,c,s',A',l',c',by rw[List.getElem?_set_self hlt];rfl,hn.keep hk⟩
  ·rw[List.getElem?_set_ne e] at hj;obtain⟨a1,a2,a3,a4,a5,a6,a7,a8,k1,k2⟩:=hir j m hj;exact⟨a1,a2,a3,a4,a5,a6,a7,a8,by rw[List.getElem?_set_ne e];exact k1,k2.keep hk⟩
 ·rw[Below.heap_setCell _ ⟨b,i*4+3,none⟩ _ g hg,Below.heap_setCell _ ⟨b,i*4+2,none⟩ _ g hg,Below.heap_setCell _ ⟨b,i*4+1,none⟩ _ g hg,Below.heap_setCell _ ⟨b,i*4,none⟩ _ g hg]
theorem RatAt.zero (w:World):RatAt w (.agg #[.bool false,.slice none 0 0,.bool false,.slice none 0 0]) 0:=RatAt.of (IntAt.zero w) (IntAt.zero w) rfl rfl
theorem OwnR.made {n:Nat} (h:Rw w b 4 (List.replicate n [.bool false,.slice none 0 0,.bool false,.slice none 0 0]) 54):OwnR w b (List.replicate n 0):=
 ⟨_,h,by simp,fun i m hi=>⟨false,none,0,0,false,none,0,0,by
  have:=(List.getElem?_eq_some_iff.1 hi).1;rw[List.length_replicate] at this;rw[List.getElem?_replicate,if_pos this],by
  have:=List.getElem?_replicate (n:=n) (a:=(0:Rat)) (i:=i);rw[hi] at this;split at this
  ·injection this with this;subst this;exact RatAt.zero w
  ·cases this⟩⟩
end
def StrsAt (w:World) (v:Value) (ls:List (List UInt8)):Prop:=∃A c,v= .slice A ls.length c∧ls.length≤c∧(ls=[]∨∃b off,A=some ⟨b,off,none⟩∧b<w.heap.size∧∀(i:Nat) (l:List UInt8),ls[i]? =some l→w.cell? ⟨b,off+i,none⟩=some (.string ⟨l.toArray⟩))
theorem StrsAt.below {w w':World} {v:Value} {ls:List (List UInt8)} (h:StrsAt w v ls) (hb:Below w.heap.size w w'):StrsAt w' v ls:=by
 obtain⟨A,c,hv,hc,h⟩:=h;refine⟨A,c,hv,hc,?_⟩;rcases h with h|⟨b,off,e,hl,hi⟩
 ·exact .inl h
 ·exact .inr ⟨b,off,e,Nat.lt_of_lt_of_le hl hb.size,fun i l h=>(hb.cell (p:=⟨b,off+i,none⟩) hl).trans (hi i l h)⟩
theorem StrsAt.form {w:World} {v:Value} {ls:List (List UInt8)} (h:StrsAt w v ls):∃A c,v= .slice A ls.length c∧ls.length≤c:=by
 obtain⟨A,c,hv,hc,_⟩:=h;exact⟨A,c,hv,hc⟩
theorem StrsAt.nil (w:World) (A:Option Addr) (c:Nat):StrsAt w (.slice A 0 c) []:=⟨A,c,rfl,Nat.zero_le _,.inl rfl⟩
theorem StrsAt.at_ {w:World} {A:Option Addr} {c l:Nat} {ls:List (List UInt8)} (h:StrsAt w (.slice A l c) ls) {i:Nat} {t:List UInt8} (hi:ls[i]? =some t):
  ∃b off,A=some ⟨b,off,none⟩∧b<w.heap.size∧w.cell? ⟨b,off+i,none⟩=some (.string ⟨t.toArray⟩):=by
 obtain⟨A',c',e,hc,h⟩:=h;simp only[Value.slice.injEq] at e;obtain⟨rfl,rfl,rfl⟩:=e;rcases h with h|⟨b,off,e,hl,hir⟩
 ·rw[h] at hi;simp at hi
 ·exact⟨b,off,e,hl,hir i t hi⟩
def rd (l:List UInt8):Bool:=(aR l).isSome
def aE (ls:List (List UInt8)):List Rat:=ls.map (fun l=>(aR l).getD 0)
theorem EG (ls:List (List UInt8)) (v:Value) (w:World) (hG:Glob w) (hv:StrsAt w v ls) (hl:ls.length≤1073741824) (hll:∀l∈ls,l.length≤1073741824):
  Calls Tryz.prog 115 #[v] w fun e w'=>∃v',e= .returned (.tuple #[v',.bool (ls.all rd)])∧(ls.all rd=true→∃g,v'= .slice (some ⟨g,0,none⟩) ls.length ls.length∧w.heap.size≤g∧OwnR w' g (aE ls))∧Below w.heap.size w w':=by
 obtain⟨A,c,rfl,hc⟩:=hv.form;have hzl:(aE ls).length=ls.length:=List.length_map _;have HZL:=Lib.hid hzl;clear hzl;go_enter Tryz.func115,Tryz.ntmps115;go_wp2_with (at_make;refine eZ rfl rfl 54 _ 4 64 Tryz.underlying114 rU rfl (by decide) ls.length rfl rfl rfl rfl (by omega) (by omega) ?_;intro w1 hz1 hr1 hb1);have R0:=OwnR.made hr1;clear hr1 hz1;go_loopg [14] ls.length (fun k i wr=>∃j,Hid (j+k=ls.length)∧i= .int .i64 j∧OwnR wr w.heap.size ((aE ls).take j++List.replicate k 0)∧Hid ((ls.take j).all rd=true)∧Below w.heap.size w wr)
 case atStart=>exact⟨0,by unfold Hid;omega,rfl,by simpa using R0,by unfold Hid;simp,hb1⟩
 case round=>
  clear R0 hb1;obtain⟨j,HJ,rfl,R,HA,hb⟩:=hrel;generalize wr=wx at *;have hj0:(0:Int)≤(j:Int):=by omega
  cases gk with
  |zero=>
   have hj:j=ls.length:=HJ.out;have hall:ls.all rd=true:=by
    have:=HA.out;rw[hj,List.take_length] at this;exact this
   subst hj;rw[List.replicate_zero,List.append_nil,List.take_of_length_le (by rw[HZL.out];exact Nat.le_refl _)] at R;have HALL:=Lib.hid hall;clear hall HA;go_wp2_with fail;go_ret2;rw[HALL.out];exact⟨_,rfl,fun _=>⟨w.heap.size,rfl,Nat.le_refl _,R⟩,hb⟩
  |succ k=>
   obtain⟨t,ht⟩:∃t,ls[j]? =some t:=⟨_,List.getElem?_eq_getElem (by have:=HJ.out;omega)⟩;obtain⟨b,off,rfl,hbl,g0⟩:=(hv.below hb).at_ ht;have htl:=hll t (List.mem_of_getElem? ht);have hj1:(j:Int)<(ls.length:Int):=by have:=HJ.out;omega
   have hym:(aE ls)[j]? =some ((aR t).getD 0):=by unfold aE;rw[List.getElem?_map,ht];rfl
   have hfl:=kF (ys:=aE ls) (z:=(0:Rat)) (j:=j) (k:=k+1) (by rw[HZL.out];exact HJ.out);have hfs:=kC (z:=(0:Rat)) (k:=k) hym;have HFL:=Lib.hid hfl;have HFS:=Lib.hid hfs;have hgx:j<((aE ls).take j++List.replicate (k+1) 0).length:=by rw[hfl,HZL.out];have:=HJ.out;omega
   have hta:(ls.take (j+1)).all rd=rd t:=by rw[List.take_add_one,ht,Option.toList_some,List.all_append,HA.out];simp
   have hno:rd t=false→ls.all rd=false:=fun h=>by
    rw[List.all_eq_false];exact⟨t,List.mem_of_getElem? ht,by rw[h];simp⟩
   have HTA:=Lib.hid hta;have HNO:=Lib.hid hno;clear hym hfl hfs hta hno ht;go_wp2_with fail;refine(EU t _ (hG.below hb) htl).mono ?_;rintro e2 w2 ⟨v2,rfl,h2,hb2⟩;obtain⟨s2,A2,k2,c2,s3,A3,k3,c3,rfl⟩:=h2.form;replace R:=R.below hb2;replace hb:=aB hb hb2;have hrs:(aR t).isSome=rd t:=rfl;rw[hrs];cases hrd:rd t with
   |false=>
    have HN:=Lib.hid (HNO.out hrd);clear HNO HTA hrd hrs;go_wp2_with fail;go_ret2;rw[HN.out];exact⟨_,rfl,(fun h=>by cases h),hb.alloc hb.size _⟩
   |true=>
    rw[hrd] at HTA;clear HNO hrd hrs;replace R:=R.below ((Below.refl w2.heap.size w2).alloc (Nat.le_refl _) (.cells #[.bool s2,.slice A2 k2 c2,.bool s3,.slice A3 k3 c3] 54));replace h2:=h2.keep (Keep.alloc w2 (.cells #[.bool s2,.slice A2 k2 c2,.bool s3,.slice A3 k3 c3] 54));have hb3:=hb.alloc hb.size (.cells #[.bool s2,.slice A2 k2 c2,.bool s3,.slice A3 k3 c3] 54);obtain⟨s',B',l',d',s'',B'',l'',d'',q0,q1,q2,q3, -⟩:=R.at_ (List.getElem?_eq_getElem hgx);have f0:=R.free (j*4);have f1:=R.free (j*4+1);have f2:=R.free (j*4+2);have f3:=R.free (j*4+3);go_wp2_with fail;obtain⟨hp,hst⟩:=R.stored hgx h2;rw[HFS.out] at hp;have hb':=dE hb3 hst (Nat.le_refl _);go_roundg k
    case rel=>exact⟨j+1,by have:=HJ.out;unfold Hid;omega,by go_num,hp,HTA,hb'⟩
    case measure=>omega
theorem OU (ls:List (List UInt8)) (v:Value) (w:World) (hG:Glob w) (hv:StrsAt w v ls) (hl:ls.length≤1073741824) (hll:∀l∈ls,l.length≤1073741824):
  Calls Tryz.prog 115 #[v] w fun e w'=>∃v',e= .returned (.tuple #[v',.bool (ls.all rd)])∧(ls.all rd=true→RatsAt w' v' (aE ls))∧Below w.heap.size w w':=
 (EG ls v w hG hv hl hll).mono (fun e w' ⟨v',he,h,hb⟩=>⟨v',he,fun ha=>by
  obtain⟨g,rfl, -,R⟩:=h ha;have hn:(aE ls).length=ls.length:=List.length_map _;have:=R.rats ls.length (by rw[hn];exact Nat.le_refl _);rw[hn] at this;exact this,hb⟩)
theorem EE (q:Rat) (v:Value) (w:World) (hq:RatAt w v q) (hl:nl q.num.natAbs≤17592186044416):
  Calls Tryz.prog 116 #[v] w fun e w'=>e= .returned (.bool (decide (q=0)))∧Below w.heap.size w w':=by
 obtain⟨s,A,k,c,s',A',k',c',rfl⟩:=hq.form;have B1:Bx (w.alloc (.cells #[.bool s,.slice A k c,.bool s',.slice A' k' c'] 54)) (w.heap.size) [.bool s,.slice A k c,.bool s',.slice A' k' c'] 54:=Bx.newAt w [.bool s,.slice A k c,.bool s',.slice A' k' c'] 54 (w.heap.size) (by simp);have hb:Below w.heap.size w (w.alloc (.cells #[.bool s,.slice A k c,.bool s',.slice A' k' c'] 54)):=(Below.refl _ _).alloc (by simp) _;go_enter Tryz.func116,Tryz.ntmps116;go_wp2_with fail;generalize w.alloc (.cells #[.bool s,.slice A k c,.bool s',.slice A' k' c'] 54)=W at *;have h:=(hq.below hb).num;refine(cU _ _ _ h hl).mono ?_;rintro e1 w1 ⟨rfl,hb1⟩;go_wp2;go_ret;exact⟨rfl,aB hb hb1⟩
theorem OR (n:Int):Lib.itoa n=fG n:=by
 unfold Lib.itoa fG;by_cases h:n<0
 ·rw[if_pos h,if_pos h];rfl
 ·rw[if_neg h,if_neg h,List.nil_append,show n.toNat=n.natAbs by omega]
theorem OS (n:Int) (h0: -9223372036854775808≤n) (h1:n≤9223372036854775807) (w:World) (hG:Glob w):
  Calls Tryz.prog 95 #[.int .i64 n] w fun e w'=>e= .returned (.string ⟨(fG n).toArray⟩)∧Below w.heap.size w w':=by
 have hf:=Tryz.strconv_FormatInt_10 n h0 h1 w hG.pow;rw[OR] at hf;go_enter Tryz.func95,Tryz.ntmps95;go_wp2_with fail;refine hf.mono ?_;rintro e w1 ⟨rfl,k,os,hw⟩;have hb:Below w.heap.size w w1:=by rw[hw];exact Lib.below_grow w.heap.size w (Nat.le_refl _) k os
 clear hw;go_wp2;go_ret;exact⟨rfl,hb⟩
theorem tT (n K:Nat) (h:nl n≤K):(Lib.decDigits n).length≤20*K+1:=by
 rw[Lib.decDigits_length];refine oT ?_ (by omega);refine Nat.lt_of_lt_of_le (bX n) ?_;have h1:BN^nl n≤BN^K:=Nat.pow_le_pow_right (by decide) h;have h2:BN^K≤(10^20)^K:=Nat.pow_le_pow_left (by decide) K;rw[←Nat.pow_mul] at h2;have h3:10^(20*K)≤10^(20*K+1):=Nat.pow_le_pow_right (by decide) (by omega);omega
theorem OT (x:Int) (K:Nat) (h:nl x.natAbs≤K):(fG x).length≤20*K+2:=by
 unfold fG;have:=tT x.natAbs K h;rw[List.length_append];split<;>simp<;>omega
theorem EF (q:Rat) (v:Value) (w:World) (hG:Glob w) (hq:RatAt w v q) (K:Nat) (hK:RL K q) (hK2:K≤1073741824):
  Calls Tryz.prog 39 #[v] w fun e w'=>e= .returned (.string ⟨(aO q).toArray⟩)∧Below w.heap.size w w':=by
 obtain⟨s,A,k,c,s',A',k',c',rfl⟩:=hq.form;obtain⟨hK1,hKd⟩:=hK;have hdl:=lO q;have B1:Bx (w.alloc (.cells #[.bool s,.slice A k c,.bool s',.slice A' k' c'] 54)) (w.heap.size) [.bool s,.slice A k c,.bool s',.slice A' k' c'] 54:=Bx.newAt w [.bool s,.slice A k c,.bool s',.slice A' k' c'] 54 (w.heap.size) (by simp);have hb:Below w.heap.size w (w.alloc (.cells #[.bool s,.slice A k c,.bool s',.slice A' k' c'] 54)):=(Below.refl _ _).alloc (by simp) _;go_enter Tryz.func39,Tryz.ntmps39;go_wp2_with fail;generalize w.alloc (.cells #[.bool s,.slice A k c,.bool s',.slice A' k' c'] 54)=W at *;have hn:=(hq.below hb).num;have hd:=(hq.below hb).den;refine(cU _ _ _ hd (by omega)).mono ?_;rintro e1 w1 ⟨rfl,hb1⟩;replace B1:=B1.below hb1;replace B1_0:=B1.cell 0 rfl;replace B1_1:=B1.cell 1 rfl;replace B1_2:=B1.cell 2 rfl;replace B1_3:=B1.cell 3 rfl;replace hk:=Keep.below hb1;replace hn:=hn.keep hk;replace hd:=hd.keep hk;replace hb:=aB hb hb1;by_cases h1:aS q=0
 ·have hdd:decide (aS q=0)=true:=by simpa using h1
  have htx:aO q=fG q.num:=by unfold aO fG;rw[if_pos (dH.1 h1),List.append_nil]
  have HTX:=Lib.hid htx;rw[hdd];clear hdd h1 htx;go_wp2_with fail;refine(JH _ _ _ hn (by omega)).mono ?_;rintro e2 w2 ⟨rfl,hb2⟩;replace B1:=B1.below hb2;replace B1_0:=B1.cell 0 rfl;replace B1_1:=B1.cell 1 rfl;replace B1_2:=B1.cell 2 rfl;replace B1_3:=B1.cell 3 rfl;replace hk:=Keep.below hb2;replace hn:=hn.keep hk;replace hd:=hd.keep hk;replace hb:=aB hb hb2;cases hf:gL q.num with
  |true=>
   rw[if_pos rfl];have hf2: -9223372036854775808≤q.num∧q.num≤9223372036854775807:=by unfold gL at hf;simpa using hf
   clear hf;go_wp2_with fail;refine(OS q.num hf2.1 hf2.2 _ (hG.below hb)).mono ?_;rintro e3 w3 ⟨rfl,hb3⟩;go_wp2;go_ret;rw[HTX.out];exact⟨rfl,aB hb hb3⟩
  |false=>
   clear hf;go_wp2_with fail;refine(OV q.num _ _ (hG.below hb) hn (by omega)).mono ?_;rintro e3 w3 ⟨rfl,hb3⟩;go_wp2;go_ret;rw[HTX.out];exact⟨rfl,aB hb hb3⟩
 ·have hdd:decide (aS q=0)=false:=by simpa using h1
  have hd1:q.den≠1:=fun e=>h1 (dH.2 e);have hde:aS q=q.den:=iS hd1;have hdx:fG (aS q)=Lib.decDigits q.den:=by unfold fG;rw[hde,if_neg (by omega)];rfl
  have htx:aO q=(fG q.num++[47])++fG (aS q):=by unfold aO;rw[hdx,if_neg hd1];unfold fG;simp
  have HTX:=Lib.hid htx;have hln:=OT q.num K hK1;rw[hdd];clear hdd h1 htx hdx hde hd1;go_wp2_with fail;refine(xU w1.heap.size (.slice none 0 0) [] q.num s A k c w1 (hG.below hb).globB (Nat.le_refl _) (TxtAt.nil _ _) hn (Apart.nil _) (by omega) (by simp)).mono ?_;rintro e7 w7 ⟨v7,rfl,h7,t7⟩;rw[List.nil_append] at h7;have hdb1:=hd.blk;have hb01:=hb;have hG1:=(hG.below hb).globB;have B1L1:=B1.lt;have hb7:Below w1.heap.size w1 w7:=t7.belowB (Nat.le_refl _) (fun g e=>by simp[Value.ownBlock] at e);have hsz7:=hb7.size;replace B1:=B1.below hb7;replace B1_0:=B1.cell 0 rfl;replace B1_1:=B1.cell 1 rfl;replace B1_2:=B1.cell 2 rfl;replace B1_3:=B1.cell 3 rfl;replace hk:=Keep.below hb7;replace hd:=hd.keep hk;replace hb:=aB hb hb7;have h7w:=h7;unfold TxtAt at h7;have hv7:=h7w.lt;have n7:v7.ownBlock≠some w.heap.size:=fun e=>by have:=(hv7 _ e).1;omega
  have ha7:Apart v7 (.slice A' k' c'):=fun g e e'=>by have:=(hv7 g e).1;have:=hdb1 g e';omega
  go_wp2_with (at_builtin;refine eJ rfl rfl 5 _ 1 1 Tryz.underlying149 jU rfl (by decide) w1.heap.size v7 (fG q.num).length _ rfl (h7.alloc _) [Value.int .u8 47] rfl (by simp) (iD _ _ _) (by simp[Value.oneCell']) (by omega) (by omega) (by simp;omega) ?_;intro q1 w8 ho1 hg1 hat1;have hm:=TxtAt.more (bs:=fG q.num) (l:=[47]) ho1 hg1 hat1;replace B1:=B1.txt hm.2 n7;replace B1_2:=B1.cell 2 rfl;replace B1_3:=B1.cell 3 rfl);have hd8:IntAt w8 (.agg #[.bool s',.slice A' k' c']) (aS q):=IntAt.of (hd.words.txt hm.2 ha7) hd.neg;have hb78:Below w1.heap.size w7 w8:=hm.2.belowB hsz7 (fun g e=>(hv7 g e).1);have hb18:Below w1.heap.size w1 w8:=hb7.trans hb78;refine(xU w1.heap.size q1 (fG q.num++[47]) (aS q) s' A' k' c' w8 (hG1.on hb18) hb18.size hm.1 hd8 (hm.2.apart ha7 (fun g e=>Nat.lt_of_lt_of_le (hdb1 g e) hsz7)) (by omega) (by simp;omega)).mono ?_;rintro e9 w9 ⟨v9,rfl,h9,t9⟩;rw[←HTX.out] at h9;have hc:=h9.str;have hb19:=hb18.trans (t9.belowB hb18.size (fun g e=>(hm.1.lt g e).1));go_wp2;go_ret;exact⟨rfl,aB hb01 hb19⟩
def OwnS (w:World) (b:Nat) (ls:List (List UInt8)):Prop:=∃cs,Bx w b cs 9∧ls.length≤cs.length∧∀(i:Nat) (l:List UInt8),ls[i]? =some l→cs[i]? =some (Value.string ⟨l.toArray⟩)
section
variable {w w':World} {b:Nat} {ls:List (List UInt8)}
theorem OwnS.below (h:OwnS w b ls) (hb:Below w.heap.size w w'):OwnS w' b ls:=by
 obtain⟨cs,h1,h2,h3⟩:=h;exact⟨cs,h1.below hb,h2,h3⟩
theorem OwnS.made {n:Nat} (h:Rw w b 1 (List.replicate n [.string ⟨#[]⟩]) 9):OwnS w b (List.replicate n []):=by
 have e:(List.replicate n [Value.string ⟨#[]⟩]).flatten=List.replicate n (Value.string ⟨#[]⟩):=by
  induction n with
  |zero=>rfl
  |succ n ih=>simp[List.replicate_succ]
 refine⟨_,by have:=h.1;rw[e] at this;exact this,by simp,fun i l hi=> ?_⟩;have h1:=(List.getElem?_eq_some_iff.1 hi).1;rw[List.length_replicate] at h1;rw[List.getElem?_replicate,if_pos h1] at hi⊢;injection hi with hi;rw[←hi]
theorem OwnS.at_ (h:OwnS w b ls) {i:Nat} {l:List UInt8} (hi:ls[i]? =some l):w.cell? ⟨b,i,none⟩=some (.string ⟨l.toArray⟩):=by
 obtain⟨cs,h1,h2,h3⟩:=h;exact h1.cell i (h3 i l hi)
theorem OwnS.free (h:OwnS w b ls) (j:Nat):w.frozen? ⟨b,j,none⟩=false:=by
 obtain⟨cs,h1,_⟩:=h;exact h1.free j
theorem OwnS.stored (h:OwnS w b ls) {i:Nat} (hi:i<ls.length) (l:List UInt8):OwnS (w.setCell ⟨b,i,none⟩ (.string ⟨l.toArray⟩)) b (ls.set i l)∧jJ b w (w.setCell ⟨b,i,none⟩ (.string ⟨l.toArray⟩)):=by
 obtain⟨cs,h1,h2,h3⟩:=h;have hc:=h1.cell i (h3 i _ (List.getElem?_eq_getElem hi));refine⟨⟨cs.set i (.string ⟨l.toArray⟩),h1.set i _,by simpa using h2,fun j t hj=> ?_⟩,Keep.put hc (NoInt.string _) _,fun g hg=>Below.heap_setCell _ ⟨b,i,none⟩ _ g hg,by simp,rfl,rfl,rfl⟩;by_cases e:i=j
 ·subst e;rw[List.getElem?_set_self hi] at hj;injection hj with hj;subst hj;rw[List.getElem?_set_self (by omega)]
 ·rw[List.getElem?_set_ne e] at hj⊢;exact h3 j t hj
end
abbrev Z0:Obj:= .cells #[.bool false,.slice none 0 0] 50
class St (a:outParam World) (b:World):Prop where
 out:Below a.heap.size a b
instance (w:World) (o:Obj):St w (w.alloc o):=⟨(Below.refl _ _).alloc (Nat.le_refl _) _⟩
instance (w:World):St w w.drew:=⟨(Below.refl _ _).drew⟩
class Up (a b:World):Prop where
 out:Below a.heap.size a b
instance (a:World):Up a a:=⟨Below.refl _ _⟩
instance (a b c:World) [s:St b c] [u:Up a b]:Up a c:=⟨u.out.trans (s.out.mono u.out.size)⟩
class Nw (a:World) (g:Nat):Prop where
 out:a.heap.size≤g
instance (a b:World) [u:Up a b]:Nw a b.heap.size:=⟨u.out.size⟩
instance (a b:World) [u:Up a b]:Nw a (b.heap.size+1):=⟨Nat.le_succ_of_le u.out.size⟩
instance (a b:World) (g o:Nat) (v:Value) [n:Nw a g] [u:Up a b]:Up a (b.setCell ⟨g,o,none⟩ v):=⟨u.out.setCell (p:=⟨g,o,none⟩) n.out v⟩
section
variable {a b:World} [u:Up a b]
theorem NatAt.up {v:Value} {n:Nat} (h:NatAt a v n):NatAt b v n:=h.below u.out
theorem IntAt.up {v:Value} {n:Int} (h:IntAt a v n):IntAt b v n:=h.below u.out
theorem RatAt.up {v:Value} {n:Rat} (h:RatAt a v n):RatAt b v n:=h.below u.out
theorem WholeAt.up {v:Value} {n:List Int} (h:WholeAt a v n):WholeAt b v n:=h.below u.out
theorem StrsAt.up {v:Value} {n:List (List UInt8)} (h:StrsAt a v n):StrsAt b v n:=h.below u.out
theorem RatsAt.up {v:Value} {n:List Rat} (h:RatsAt a v n):RatsAt b v n:=h.below u.out
theorem Bx.up {g:Nat} {cs:List Value} {t:TypeId} (h:Bx a g cs t):Bx b g cs t:=h.below u.out
theorem OwnW.up {g:Nat} {n:List Int} (h:OwnW a g n):OwnW b g n:=h.below u.out
theorem OwnS.up {g:Nat} {n:List (List UInt8)} (h:OwnS a g n):OwnS b g n:=h.below u.out
theorem Glob.up (h:Glob a):Glob b:=h.below u.out
theorem mL {w:World} (h:Below w.heap.size w a):Below w.heap.size w b:=h.trans (u.out.mono h.size)
end
theorem dd {w:World} {g:Nat} {v0 v1:Value} {t:TypeId} (h:Bx w g [v0,v1] t):(C2 w g v0 v1∧Fz w g)∧(∀o:Obj,C2 (w.alloc o) g v0 v1∧Fz (w.alloc o) g)∧g≠w.heap.size∧w.heap.size≠g:=
 ⟨h.g2,fun o=>(h.alloc o).g2,Nat.ne_of_lt h.lt,Nat.ne_of_gt h.lt⟩
abbrev C5 (w:World) (b:Nat) (v0 v1 v2 v3 v4:Value):Prop:=w.cell? ⟨b,0,none⟩=some v0∧w.cell? ⟨b,1,none⟩=some v1∧w.cell? ⟨b,2,none⟩=some v2∧w.cell? ⟨b,3,none⟩=some v3∧w.cell? ⟨b,4,none⟩=some v4
abbrev C6 (w:World) (b:Nat) (v0 v1 v2 v3 v4 v5:Value):Prop:=w.cell? ⟨b,0,none⟩=some v0∧w.cell? ⟨b,1,none⟩=some v1∧w.cell? ⟨b,2,none⟩=some v2∧w.cell? ⟨b,3,none⟩=some v3∧w.cell? ⟨b,4,none⟩=some v4∧w.cell? ⟨b,5,none⟩=some v5
abbrev C8 (w:World) (b:Nat) (v0 v1 v2 v3 v4 v5 v6 v7:Value):Prop:=w.cell? ⟨b,0,none⟩=some v0∧w.cell? ⟨b,1,none⟩=some v1∧w.cell? ⟨b,2,none⟩=some v2∧w.cell? ⟨b,3,none⟩=some v3∧w.cell? ⟨b,4,none⟩=some v4∧w.cell? ⟨b,5,none⟩=some v5∧w.cell? ⟨b,6,none⟩=some v6∧w.cell? ⟨b,7,none⟩=some v7
section
variable {w W:World} {b g o B:Nat} {t:TypeId} {v0 v1 v2 v3 v4 u:Value} {cs:List Value}
theorem Bx.k5 (h:Bx w b [v0,v1,v2,v3,v4] t):C5 w b v0 v1 v2 v3 v4:=⟨h.cell 0 rfl,h.cell 1 rfl,h.cell 2 rfl,h.cell 3 rfl,h.cell 4 rfl⟩
theorem Bx.g5 (h:Bx w b [v0,v1,v2,v3,v4] t):C5 w b v0 v1 v2 v3 v4∧Fz w b:=⟨h.k5,h.free⟩
theorem Bx.k6 {v0 v1 v2 v3 v4 v5:Value} (h:Bx w b [v0,v1,v2,v3,v4,v5] t):C6 w b v0 v1 v2 v3 v4 v5:=⟨h.cell 0 rfl,h.cell 1 rfl,h.cell 2 rfl,h.cell 3 rfl,h.cell 4 rfl,h.cell 5 rfl⟩
theorem Bx.g6 {v0 v1 v2 v3 v4 v5:Value} (h:Bx w b [v0,v1,v2,v3,v4,v5] t):C6 w b v0 v1 v2 v3 v4 v5∧Fz w b:=⟨h.k6,h.free⟩
theorem Bx.k8 {v0 v1 v2 v3 v4 v5 v6 v7:Value} (h:Bx w b [v0,v1,v2,v3,v4,v5,v6,v7] t):C8 w b v0 v1 v2 v3 v4 v5 v6 v7:=⟨h.cell 0 rfl,h.cell 1 rfl,h.cell 2 rfl,h.cell 3 rfl,h.cell 4 rfl,h.cell 5 rfl,h.cell 6 rfl,h.cell 7 rfl⟩
theorem Bx.g8 {v0 v1 v2 v3 v4 v5 v6 v7:Value} (h:Bx w b [v0,v1,v2,v3,v4,v5,v6,v7] t):C8 w b v0 v1 v2 v3 v4 v5 v6 v7∧Fz w b:=⟨h.k8,h.free⟩
theorem NatAt.puti {n:Nat} (h:NatAt w u n) {p:Addr} {c:Int} (hp:w.cell? p=some (.int .i64 c)) (v:Value):NatAt (w.setCell p v) u n:=by
 obtain⟨A,c',hv,hc',hr,ho⟩:=h;refine⟨A,c',hv,hc',?_,ho.mono (by simp)⟩;rcases hr with hr|⟨b,off,rfl,hlt,hcs⟩
 ·exact .inl hr
 ·refine .inr ⟨b,off,rfl,by simpa using hlt,fun i hi=> ?_⟩;have h1:=hcs i hi;rw[World.cell?_setCell_other _ _ _ _ ?_,h1];rintro rfl;rw[h1] at hp;injection hp with hp;injection hp with hp;cases hp
theorem Keep.puti {p:Addr} {c:Int} (hp:w.cell? p=some (.int .i64 c)) (v:Value):Keep w (w.setCell p v):=fun _ _ h=>h.puti hp v
theorem Bx.put5 (h:Bx W b cs t) (hb:Below B w W) (hB:B≤b) (v0 v1 v2 v3 v4:Value) {a0 a1 a2 a3:Value} {k:Int} (hc:cs=[a0,a1,a2,a3,.int .i64 k]) (hn:(fZ (some a0)&&(fZ (some a1)&&(fZ (some a2)&&fZ (some a3))))=true):
  ∃W',((((W.setCell ⟨b,0,none⟩ v0).setCell ⟨b,1,none⟩ v1).setCell ⟨b,2,none⟩ v2).setCell ⟨b,3,none⟩ v3).setCell ⟨b,4,none⟩ v4=W'∧Bx W' b [v0,v1,v2,v3,v4] t∧Below B w W'∧Keep W W'∧∀{g:Nat} {cs:List Value} {t:TypeId},Bx W g cs t→b≠g→Bx W' g cs t:=by
 subst hc;simp only[Bool.and_eq_true] at hn;obtain⟨W1,rfl,h1,b1,k1,f1⟩:=h.put1 hb hB 0 v0 hn.1;obtain⟨W2,rfl,h2,b2,k2,f2⟩:=h1.put1 b1 hB 1 v1 hn.2.1;obtain⟨W3,rfl,h3,b3,k3,f3⟩:=h2.put1 b2 hB 2 v2 hn.2.2.1;obtain⟨W4,rfl,h4,b4,k4,f4⟩:=h3.put1 b3 hB 3 v3 hn.2.2.2;exact⟨_,rfl,h4.set 4 v4,b4.setCell (p:=⟨b,4,none⟩) hB v4,(((k1.trans k2).trans k3).trans k4).trans (Keep.puti (h4.cell 4 rfl) v4),fun k hne=>(f4 (f3 (f2 (f1 k hne) hne) hne) hne).far 4 v4 hne⟩
end
def EndAt (w:World) (v:Value) (i:Int) (x:Rat):Prop:=∃s A k c s' A' k' c',v= .agg #[.bool s,.slice A k c,.bool s',.slice A' k' c',.int .i64 i]∧RatAt w (.agg #[.bool s,.slice A k c,.bool s',.slice A' k' c']) x
theorem EndAt.below {w W:World} {v:Value} {i:Int} {x:Rat} (h:EndAt w v i x) (hb:Below w.heap.size w W):EndAt W v i x:=by
 obtain⟨s,A,k,c,s',A',k',c',e,h⟩:=h;exact⟨s,A,k,c,s',A',k',c',e,h.below hb⟩
theorem EndAt.up {a b:World} [u:Up a b] {v:Value} {i:Int} {x:Rat} (h:EndAt a v i x):EndAt b v i x:=h.below u.out
theorem EndAt.form {w:World} {v:Value} {i:Int} {x:Rat} (h:EndAt w v i x):∃s A k c s' A' k' c',v= .agg #[.bool s,.slice A k c,.bool s',.slice A' k' c',.int .i64 i]:=by
 obtain⟨s,A,k,c,s',A',k',c',e,h⟩:=h;exact⟨s,A,k,c,s',A',k',c',e⟩
theorem EndAt.rat {w:World} {s:Bool} {A:Option Addr} {k c:Nat} {s':Bool} {A':Option Addr} {k' c':Nat} {i:Int} {x:Rat} (h:EndAt w (.agg #[.bool s,.slice A k c,.bool s',.slice A' k' c',.int .i64 i]) i x):RatAt w (.agg #[.bool s,.slice A k c,.bool s',.slice A' k' c']) x:=by
 obtain⟨s,A,k,c,s',A',k',c',e,h⟩:=h;simp only[Value.agg.injEq,Array.mk.injEq,List.cons.injEq,Value.bool.injEq,Value.slice.injEq] at e;obtain⟨rfl,⟨rfl,rfl,rfl⟩,rfl,⟨rfl,rfl,rfl⟩, -⟩:=e;exact h
theorem EndAt.of {w:World} {s:Bool} {A:Option Addr} {k c:Nat} {s':Bool} {A':Option Addr} {k' c':Nat} {i:Int} {x:Rat} (h:RatAt w (.agg #[.bool s,.slice A k c,.bool s',.slice A' k' c']) x):EndAt w (.agg #[.bool s,.slice A k c,.bool s',.slice A' k' c',.int .i64 i]) i x:=⟨_,_,_,_,_,_,_,_,rfl,h⟩
theorem RatAt.int {w:World} {s s':Bool} {u u':Value} {n:Int} (h1:IntAt w (.agg #[.bool s,u]) n) (h2:IntAt w (.agg #[.bool s',u']) 0):RatAt w (.agg #[.bool s,u,.bool s',u']) (n:Rat):=
 RatAt.of h1 h2 rfl (dH.2 rfl)
theorem n9:nl (Int.natAbs 0)≤17592186044416:=by rw[show Int.natAbs 0=0 from rfl,cC];exact Nat.zero_le _
theorem u6 (n:Int):aS (n:Rat)=0:=dH.2 rfl
theorem Q7 (n:Int) (vn:Value) (w:World) (hn:IntAt w vn n):
  Calls Tryz.prog 110 #[vn] w (eV w (n:Rat)):=by
 obtain⟨sn,An,kn,cn,rfl⟩:=hn.form;have B1:Bx ((w.alloc (.cells #[.bool sn,.slice An kn cn] 50)).alloc (.cells #[.bool false,.slice none 0 0,.bool false,.slice none 0 0] 54)) (w.heap.size) [.bool sn,.slice An kn cn] 50:=(Bx.newAt w [.bool sn,.slice An kn cn] 50 (w.heap.size) (by simp)).alloc (.cells #[.bool false,.slice none 0 0,.bool false,.slice none 0 0] 54);have R:Bx ((w.alloc (.cells #[.bool sn,.slice An kn cn] 50)).alloc (.cells #[.bool false,.slice none 0 0,.bool false,.slice none 0 0] 54)) (w.heap.size+1) [.bool false,.slice none 0 0,.bool false,.slice none 0 0] 54:=Bx.newAt (w.alloc (.cells #[.bool sn,.slice An kn cn] 50)) [.bool false,.slice none 0 0,.bool false,.slice none 0 0] 54 (w.heap.size+1) (by simp);have hb:Below w.heap.size w ((w.alloc (.cells #[.bool sn,.slice An kn cn] 50)).alloc (.cells #[.bool false,.slice none 0 0,.bool false,.slice none 0 0] 54)):=((Below.refl _ _).alloc (by simp) _).alloc (by simp<;>omega) _;go_enter Tryz.func110,Tryz.ntmps110;go_wp2_with fail;have h2:=hn.below hb;have hbR:=((Below.refl w.heap.size w).alloc (Nat.le_refl _) (.cells #[.bool sn,.slice An kn cn] 50)).alloc (by simp) (.cells #[.bool sn,.slice An kn cn,.bool false,.slice none 0 0] 54);exact bodyPost_ret (v:= .agg #[.bool sn,.slice An kn cn,.bool false,.slice none 0 0]) (by simp[results,Tryz.results110,go_sem]) rfl ⟨_,rfl,RatAt.int (hn.below hbR) (IntAt.zero _),hbR⟩
theorem xX (x y:Int) (vx vy:Value) (w:World) (hx:RatAt w vx (x:Rat)) (hy:RatAt w vy (y:Rat)) (hlim:nl x.natAbs+nl y.natAbs≤17592186044416):
  Calls Tryz.prog 27 #[vx,vy] w (eV w ((x*y:Int):Rat)):=by
 obtain⟨s,A,k,c,s',A',k',c',rfl⟩:=hx.form;obtain⟨t,C,l,e,t',C',l',e',rfl⟩:=hy.form;obtain⟨W,eW,hb,X,Y,R⟩:=dK w [.bool s,.slice A k c,.bool s',.slice A' k' c'] 54 [.bool t,.slice C l e,.bool t',.slice C' l' e'] 54 [.bool false,.slice none 0 0,.bool false,.slice none 0 0] 54;have cM:=aa X.g4 (aa Y.g4 R.g4);go_enter Tryz.func27,Tryz.ntmps27;go_wp2_with fail;(try rw[eW]);clear eW;have hxn:IntAt W (.agg #[.bool s,.slice A k c]) x:=(hx.below hb).num;have hxd:IntAt W (.agg #[.bool s',.slice A' k' c']) 0:=by have:=(hx.below hb).den;rw[u6] at this;exact this
 have hyn:IntAt W (.agg #[.bool t,.slice C l e]) y:=(hy.below hb).num;have hyd:IntAt W (.agg #[.bool t',.slice C' l' e']) 0:=by have:=(hy.below hb).den;rw[u6] at this;exact this
 refine(cU x _ _ hxn (by omega)).mono ?_;rintro e1 w1 ⟨rfl,hb1⟩;replace X:=X.below hb1;replace Y:=Y.below hb1;replace R:=R.below hb1;replace cM:=aa X.k4 (aa Y.k4 R.g4);replace hk:=Keep.below hb1;replace hxn:=hxn.keep hk;replace hxd:=hxd.keep hk;replace hyn:=hyn.keep hk;replace hyd:=hyd.keep hk;replace hb:=aB hb hb1;by_cases hx0:x=0
 ·have hdd:decide (x=0)=true:=by simpa using hx0
  rw[hdd];have hq:x*y=0:=by rw[hx0,Int.zero_mul]
  have HQ:=Lib.hid hq;clear hdd hq hx0;go_wp2_with fail;obtain⟨W6,eW6,R,hb,hk,ff⟩:=R.put4 hb (by omega) (.bool false) (.slice none 0 0) (.bool false) (.slice none 0 0) rfl rfl;replace X:=ff X (by omega);replace Y:=ff Y (by omega);rw[eW6];clear eW6;replace cM:=aa X.k4 (aa Y.k4 R.k4);exact bodyPost_ret (v:= .agg #[.bool false,.slice none 0 0,.bool false,.slice none 0 0]) (by simp[results,Tryz.results27,go_sem,R.k4]) rfl ⟨_,rfl,RatAt.of (IntAt.zero _) (IntAt.zero _) (by rw[HQ.out];rfl) (by rw[HQ.out];rfl),hb⟩
 ·have hdd:decide (x=0)=false:=by simpa using hx0
  rw[hdd];clear hdd;go_wp2_with fail;refine(cU y _ _ hyn (by omega)).mono ?_;rintro e2 w2 ⟨rfl,hb2⟩;replace X:=X.below hb2;replace Y:=Y.below hb2;replace R:=R.below hb2;replace cM:=aa X.k4 (aa Y.k4 R.g4);replace hk:=Keep.below hb2;replace hxn:=hxn.keep hk;replace hxd:=hxd.keep hk;replace hyn:=hyn.keep hk;replace hyd:=hyd.keep hk;replace hb:=aB hb hb2;by_cases hy0:y=0
  ·have hdd:decide (y=0)=true:=by simpa using hy0
   rw[hdd];have hq:x*y=0:=by rw[hy0,Int.mul_zero]
   have HQ:=Lib.hid hq;clear hdd hq hy0;go_wp2_with fail;obtain⟨W6,eW6,R,hb,hk,ff⟩:=R.put4 hb (by omega) (.bool false) (.slice none 0 0) (.bool false) (.slice none 0 0) rfl rfl;replace X:=ff X (by omega);replace Y:=ff Y (by omega);rw[eW6];clear eW6;replace cM:=aa X.k4 (aa Y.k4 R.k4);exact bodyPost_ret (v:= .agg #[.bool false,.slice none 0 0,.bool false,.slice none 0 0]) (by simp[results,Tryz.results27,go_sem,R.k4]) rfl ⟨_,rfl,RatAt.of (IntAt.zero _) (IntAt.zero _) (by rw[HQ.out];rfl) (by rw[HQ.out];rfl),hb⟩
  ·have hdd:decide (y=0)=false:=by simpa using hy0
   rw[hdd];clear hdd;go_wp2_with fail;refine(cU 0 _ _ hxd n9).mono ?_;rintro e3 w3 ⟨rfl,hb3⟩;replace X:=X.below hb3;replace Y:=Y.below hb3;replace R:=R.below hb3;replace cM:=aa X.k4 (aa Y.k4 R.g4);replace hk:=Keep.below hb3;replace hxn:=hxn.keep hk;replace hxd:=hxd.keep hk;replace hyn:=hyn.keep hk;replace hyd:=hyd.keep hk;replace hb:=aB hb hb3;have hdd:decide ((0:Int)=0)=true:=rfl;rw[hdd];clear hdd;go_wp2_with fail;refine(cU 0 _ _ hyd n9).mono ?_;rintro e4 w4 ⟨rfl,hb4⟩;replace X:=X.below hb4;replace Y:=Y.below hb4;replace R:=R.below hb4;replace cM:=aa X.k4 (aa Y.k4 R.g4);replace hk:=Keep.below hb4;replace hxn:=hxn.keep hk;replace hxd:=hxd.keep hk;replace hyn:=hyn.keep hk;replace hyd:=hyd.keep hk;replace hb:=aB hb hb4;have hdd:decide ((0:Int)=0)=true:=rfl;rw[hdd];clear hdd;go_wp2_with fail;refine(f8 x y _ _ _ hxn hyn hlim).mono ?_;rintro e5 w5 ⟨v5,rfl,h5,hb5⟩;obtain⟨s5,A5,k5,c5,rfl⟩:=h5.form;replace X:=X.below hb5;replace Y:=Y.below hb5;replace R:=R.below hb5;replace cM:=aa X.k4 (aa Y.k4 R.g4);replace hb:=aB hb hb5;go_wp2_with fail;obtain⟨W6,eW6,R,hb,hk,ff⟩:=R.put4 hb (by omega) (.bool s5) (.slice A5 k5 c5) (.bool false) (.slice none 0 0) rfl rfl;replace X:=ff X (by omega);replace Y:=ff Y (by omega);replace h5:=h5.keep hk;rw[eW6];clear eW6;replace cM:=aa X.k4 (aa Y.k4 R.k4);exact bodyPost_ret (v:= .agg #[.bool s5,.slice A5 k5 c5,.bool false,.slice none 0 0]) (by simp[results,Tryz.results27,go_sem,R.k4]) rfl ⟨_,rfl,RatAt.int h5 (IntAt.zero _),hb⟩
theorem UX (x:Rat) (v:Value) (w:World) (hv:RatAt w v x):Calls Tryz.prog 192 #[v] w (bW w x.num):=by
 obtain⟨s1,A1,k1,c1,s2,A2,k2,c2,rfl⟩:=hv.form;have hb:=((Below.refl w.heap.size w).alloc (Nat.le_refl _) (.cells #[.bool s1,.slice A1 k1 c1,.bool s2,.slice A2 k2 c2] 54)).alloc (by simp) (.cells #[.bool s1,.slice A1 k1 c1] 50);go_enter Tryz.func192,Tryz.ntmps192;go_wp2_with fail;exact bodyPost_ret (v:= .agg #[.bool s1,.slice A1 k1 c1]) (by simp[results,Tryz.results192,go_sem]) rfl ⟨_,rfl,hv.num.below hb,hb⟩
theorem I4 (x:Rat) (v:Value) (w:World) (hv:RatAt w v x) (lx:nl x.den≤17592186044416):Calls Tryz.prog 70 #[v] w (bW w (x.den:Int)):=by
 obtain⟨s1,A1,k1,c1,s2,A2,k2,c2,rfl⟩:=hv.form;have hl:=Nat.le_trans (lO x) lx;obtain⟨W,eW,hb,X,R⟩:=j6 w [.bool s1,.slice A1 k1 c1,.bool s2,.slice A2 k2 c2] 54 [.bool false,.slice none 0 0] 50;have cM:=aa X.g4 R.g2;go_enter Tryz.func70,Tryz.ntmps70;go_wp2_with fail;(try rw[eW]);clear eW;have hd:=(hv.below hb).den;refine(cU (aS x) _ _ hd hl).mono ?_;rintro e3 w3 ⟨rfl,hb3⟩;replace X:=X.below hb3;replace R:=R.below hb3;replace cM:=aa X.k4 R.g2;replace hk:=Keep.below hb3;replace hd:=hd.keep hk;replace hb:=aB hb hb3;by_cases h1:x.den=1
 ·have hdd:decide (aS x=0)=true:=by rw[decide_eq_true_iff,dH];exact h1
  have HD:Hid ((x.den:Int)=1):=by unfold Hid;omega
  rw[hdd];clear hdd h1 hl;go_wp2_with fail;refine(jK 1 _ (by decide) (by decide)).mono ?_;rintro e4 w4 ⟨v4,rfl,h4,hb4⟩;obtain⟨s4,A4,k4,c4,rfl⟩:=h4.form;replace X:=X.below hb4;replace R:=R.below hb4;replace cM:=aa X.k4 R.g2;replace hb:=aB hb hb4;go_wp2_with fail;replace h4:IntAt w4 (.agg #[.bool s4,.slice A4 k4 c4]) (x.den:Int):=by rw[HD.out];exact h4
  obtain⟨W6,eW6,R,hb,hk,ff⟩:=R.put2 hb (by omega) (.bool s4) (.slice A4 k4 c4) rfl rfl;replace X:=ff X (by omega);replace h4:=h4.keep hk;rw[eW6];clear eW6;replace cM:=aa X.k4 R.k2;exact bodyPost_ret (v:= .agg #[.bool s4,.slice A4 k4 c4]) (by simp[results,Tryz.results70,go_sem,R.k2]) rfl ⟨_,rfl,h4,hb⟩
 ·have hdd:decide (aS x=0)=false:=by rw[decide_eq_false_iff_not,dH];exact h1
  rw[hdd];rw[iS h1] at hd;clear hdd h1 hl;go_wp2_with fail;obtain⟨W6,eW6,R,hb,hk,ff⟩:=R.put2 hb (by omega) (.bool s2) (.slice A2 k2 c2) rfl rfl;replace X:=ff X (by omega);replace hd:=hd.keep hk;rw[eW6];clear eW6;replace cM:=aa X.k4 R.k2;exact bodyPost_ret (v:= .agg #[.bool s2,.slice A2 k2 c2]) (by simp[results,Tryz.results70,go_sem,R.k2]) rfl ⟨_,rfl,hd,hb⟩
end Go.Proofs.YtbhplgdbfmifkaaGreatDoor
