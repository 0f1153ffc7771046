/-
  Contracts, laws: TxtI, RowG, RowH, RatF, RowI, Up.
-/
import Derived.Test.YthfnenohhindpaaGreatDoorC24
import Derived.Test.YthfnenohhindpaaGreatDoorC28
import Derived.Laws.IdiomStrings
set_option linter.all false
set_option maxHeartbeats 8000000
set_option maxRecDepth 100000
namespace Go.Proofs.YthfnenohhindpaaGreatDoor
open Go.RowKit Sos
def gA (x:Int):List UInt8:=(if x<0 then [45] else [])++Lib.decDigits x.natAbs
theorem TxtAt.nil (w:World) (B:Nat):TxtAt w B (.slice none 0 0) []:=World.ownsRow_nil w B _ _
theorem TxtAt.str {w:World} {B:Nat} {v:Value} {bs:List UInt8} (h:TxtAt w B v bs):(convert 177 9 v).run Tryz.prog w= .ok (.string ⟨bs.toArray⟩) w:=by
 rcases id h.2 with ⟨rfl,e⟩|⟨g,a,c,rfl,_⟩
 ·have:bs=[]:=bM e;subst this;rw[run_convert_bytes_string w 177 9 5 none 0 0 Tryz.underlying177 Tryz.underlying5 Tryz.underlying9];rfl
 ·refine run_convert_bytes_back (P:=Tryz.prog) w 177 9 5 ⟨g,0,none⟩ a bs Tryz.underlying177 Tryz.underlying5 Tryz.underlying9 (fun j b=> ?_);refine World.ownsRow.cells h (by simp[Value.ownBlock]) j _ ?_;simp[Lib.byteCells,b]
theorem Apart.nil (v:Value):Apart (.slice none 0 0) v:=fun g h=>by simp[Value.ownBlock] at h
theorem xB (B:Nat) (a:Value) (bs:List UInt8) (x:Int) (s:Bool) (A:Option Addr) (k c:Nat) (w:World) (I:GlobB B w) (C:B<=w.heap.size) (r:TxtAt w B a bs) (y:IntAt w (.agg #[.bool s,.slice A k c]) x)
  (o:Apart a (.slice A k c)) (G:nl x.natAbs<=4294967296) (T:bs.length<=4398046511103):
  Calls Tryz.prog 133 #[.agg #[.bool s,.slice A k c],a] w fun e w'=>∃v,e= .returned v∧TxtAt w' B v (bs++gA x)∧TxtTo w a w' v:=by
 have m:=y.neg;have J:∀g,(Value.slice A k c).ownBlock=some g->g<w.heap.size:=fun g e=>y.words.block e;have i:Bx (w.alloc (.cells #[.bool s,.slice A k c] 59)) (w.heap.size) [.bool s,.slice A k c] 59:=Bx.newAt w [.bool s,.slice A k c] 59 (w.heap.size) (by simp);have f:Below w.heap.size w (w.alloc (.cells #[.bool s,.slice A k c] 59)):=(aH _ _).alloc (by simp) _;have F:=y.words.below f;have t:=r.below f;have E:=fun g e=>(r.lt g e).1;have p:TxtTo w a (w.alloc (.cells #[.bool s,.slice A k c] 59)) a:=TxtTo.below f;have D:=I.on (p.belowB C E);have n:B<=(w.alloc (.cells #[.bool s,.slice A k c] 59)).heap.size:=aG C f.size;have K:∀g,(Value.slice A k c).ownBlock=some g->g<(w.alloc (.cells #[.bool s,.slice A k c] 59)).heap.size:=fun g e=>aU (J g e) f.size;by_cases d:x<0
 ·have q:s=true:=by rw[m];simpa using d
  have h:gA x=[45]++Lib.decDigits x.natAbs:=by unfold gA;rw[if_pos d]
  rw[h];clear h d m;subst q;unfold TxtAt at t;go_enter Tryz.func133,Tryz.ntmps133;go_wp2_with (at_builtin;(refine fE rfl rfl 5 _ 1 1 Tryz.underlying177 kP rfl (by decide) B a bs.length _ rfl (t.alloc _) [Value.int .u8 45] rfl (by simp) (BO _ _ _ _ (by simp)) (by simp[Value.oneCell']) (by omega) (by omega) (by simp;omega) ?_);intro P H O N M;have b:=TxtAt.more (bs:=bs) (l:=[45]) O N M;have i:Bx H w.heap.size [.bool true,.slice A k c] 59:=(b.2.1.block _ i.lt (fun e=>by have:=r.lt _ e.symm;omega)).trans i;have S:=i.cell 1 rfl);refine(DW B P (bs++[45]) x.natAbs (.slice A k c) H (D.on (b.2.belowB n E)) (aG n b.2.1.size) b.1 (F.txt b.2 o) (b.2.apart o K) G (by simp;omega)).mono ?_;rintro e R ⟨Q,rfl,j,z⟩;rw[List.append_assoc] at j;have u:=p.trans (b.2.trans z);go_wp2;go_ret;exact⟨_,rfl,j,u⟩
 ·have q:s=false:=by rw[m];simpa using d
  have h:gA x=Lib.decDigits x.natAbs:=by unfold gA;rw[if_neg d];rfl
  rw[h];clear h d m;subst q;have L:=DW B a bs x.natAbs (.slice A k c) _ D n t F o G (by omega);go_enter Tryz.func133,Tryz.ntmps133;go_wp2_with fail;refine L.mono ?_;rintro e R ⟨Q,rfl,j,z⟩;have u:=p.trans z;go_wp2;go_ret;exact⟨_,rfl,j,u⟩
theorem O6 (x:Int) (i:Value) (w:World) (k:Glob w) (h:IntAt w i x) (n:nl x.natAbs<=4294967296):
  Calls Tryz.prog 132 #[i] w fun e w'=>e= .returned (.string ⟨(gA x).toArray⟩)∧Below w.heap.size w w':=by
 obtain⟨d,a,c,b,rfl⟩:=h.form;have p:Bx (w.alloc (.cells #[.bool d,.slice a c b] 59)) (w.heap.size) [.bool d,.slice a c b] 59:=Bx.newAt w [.bool d,.slice a c b] 59 (w.heap.size) (by simp);have f:Below w.heap.size w (w.alloc (.cells #[.bool d,.slice a c b] 59)):=(aH _ _).alloc (by simp) _;go_enter Tryz.func132,Tryz.ntmps132;go_wp2_with fail;generalize w.alloc (.cells #[.bool d,.slice a c b] 59)=W at *;have h:=h.below f;refine(xB W.heap.size (.slice none 0 0) [] x d a c b W (k.below f).globB aE (TxtAt.nil _ _) h (Apart.nil _) n (by simp)).mono ?_;rintro e r ⟨q,rfl,j,o⟩;have m:=j.str;rw[List.nil_append] at m;have l:=f.trans ((o.belowB aE (fun g e=>by simp[Value.ownBlock] at e)).mono f.size);go_wp2;go_ret;exact⟨rfl,l⟩
def RRow (w:World) (rows:List (List Value)) (qs:List Rat):Prop:=∀(i:Nat) (q:Rat),qs[i]? =some q->∃s A l c e a d c',rows[i]? =some [Value.bool s,Value.slice A l c,Value.bool e,Value.slice a d c']∧RatAt w (.agg #[.bool s,.slice A l c,.bool e,.slice a d c']) q
theorem RRow.keep {w w':World} {rows:List (List Value)} {qs:List Rat} (h:RRow w rows qs) (f:Keep w w'):RRow w' rows qs:=fun i q hi=>by
 obtain⟨s,A,l,c,j,a,g,c',d,e⟩:=h i q hi;exact⟨s,A,l,c,j,a,g,c',d,e.keep f⟩
theorem RRow.take {w:World} {rows:List (List Value)} {qs:List Rat} (h:RRow w rows qs) (m:Nat):RRow w rows (qs.take m):=fun i q hi=>by
 rw[List.getElem?_take] at hi;split at hi
 ·exact h i q hi
 ·cases hi
def RatsAt (w:World) (v:Value) (qs:List Rat):Prop:=∃A c,v= .slice A qs.length c∧qs.length<=c∧(qs=[]∨∃b rows,A=some ⟨b,0,none⟩∧Rw w b 4 rows 66∧RRow w rows qs)
theorem RatsAt.below {w w':World} {v:Value} {qs:List Rat} (h:RatsAt w v qs) (a:Below w.heap.size w w'):RatsAt w' v qs:=by
 obtain⟨A,c,hv,d,h⟩:=h;refine⟨A,c,hv,d,?_⟩;rcases h with h|⟨b,i,e,g,f⟩
 ·exact .inl h
 ·exact .inr ⟨b,i,e,g.below a,f.keep (Keep.below a)⟩
theorem RatsAt.nil (w:World) (A:Option Addr) (c:Nat):RatsAt w (.slice A 0 c) []:=⟨A,c,rfl,Nat.zero_le _,.inl rfl⟩
theorem RatsAt.form {w:World} {v:Value} {qs:List Rat} (h:RatsAt w v qs):∃A c,v= .slice A qs.length c∧qs.length<=c:=by
 obtain⟨A,c,hv,a,_⟩:=h;exact⟨A,c,hv,a⟩
theorem RatsAt.cut {w:World} {A:Option Addr} {c l:Nat} {qs:List Rat} (h:RatsAt w (.slice A l c) qs) (m:Nat) (d:m<=qs.length):RatsAt w (.slice A m c) (qs.take m):=by
 obtain⟨i,j,e,k,h⟩:=h;simp only[Value.slice.injEq] at e;obtain⟨rfl,rfl,rfl⟩:=e;refine⟨A,c,by rw[aZ,Nat.min_eq_left d],by rw[aZ];omega,?_⟩;rcases h with h|⟨b,g,e,f,a⟩
 ·exact .inl (by rw[h];simp)
 ·exact .inr ⟨b,g,e,f,a.take m⟩
theorem RatsAt.at_ {w:World} {A:Option Addr} {c l:Nat} {qs:List Rat} (h:RatsAt w (.slice A l c) qs) {i:Nat} {q:Rat} (hi:qs[i]? =some q):
  ∃b s B m d n f k g,A=some ⟨b,0,none⟩∧b<w.heap.size∧w.cell? ⟨b,i*4,none⟩=some (.bool s)∧w.cell? ⟨b,i*4+1,none⟩=some (.slice B m d)∧w.cell? ⟨b,i*4+2,none⟩=some (.bool n)∧w.cell? ⟨b,i*4+3,none⟩=some (.slice f k g)∧RatAt w (.agg #[.bool s,.slice B m d,.bool n,.slice f k g]) q:=by
 obtain⟨r,t,e,u,h⟩:=h;simp only[Value.slice.injEq] at e;obtain⟨rfl,rfl,rfl⟩:=e;rcases h with h|⟨b,v,e,a,p⟩
 ·rw[h] at hi;simp at hi
 ·obtain⟨s,B,m,d,n,f,k,g,j,o⟩:=p i q hi;exact⟨b,s,B,m,d,n,f,k,g,e,a.lt,a.cell 0 j rfl,a.cell 1 j rfl,a.cell 2 j rfl,a.cell 3 j rfl,o⟩
def OwnR (w:World) (b:Nat) (qs:List Rat):Prop:=∃rows,Rw w b 4 rows 66∧qs.length<=rows.length∧RRow w rows qs
section
variable {w w':World} {b:Nat} {qs:List Rat}
theorem OwnR.lt (h:OwnR w b qs):b<w.heap.size:=by
 obtain⟨c,a,_⟩:=h;exact a.lt
theorem OwnR.below (h:OwnR w b qs) (a:Below w.heap.size w w'):OwnR w' b qs:=by
 obtain⟨f,e,d,c⟩:=h;exact⟨f,e.below a,d,c.keep (Keep.below a)⟩
theorem OwnR.step {g:Nat} (h:OwnR w b qs) (c:kO g w w') (f:b≠g):OwnR w' b qs:=by
 obtain⟨i,a,e,d⟩:=h;exact⟨i,⟨(c.2.1 b f).trans a.1,a.2⟩,e,d.keep c.1⟩
theorem OwnR.rats (h:OwnR w b qs) (c:Nat) (a:qs.length<=c):RatsAt w (.slice (some ⟨b,0,none⟩) qs.length c) qs:=by
 obtain⟨f,e,g,d⟩:=h;exact⟨_,c,rfl,a,.inr ⟨b,f,rfl,e,d⟩⟩
theorem OwnR.free (h:OwnR w b qs) (j:Nat):w.frozen? ⟨b,j,none⟩=false:=by
 obtain⟨c,a,_⟩:=h;exact a.free j
theorem OwnR.at_ (h:OwnR w b qs) {i:Nat} {q:Rat} (hi:qs[i]? =some q):
  ∃s B m d j a g c,w.cell? ⟨b,i*4,none⟩=some (.bool s)∧w.cell? ⟨b,i*4+1,none⟩=some (.slice B m d)∧w.cell? ⟨b,i*4+2,none⟩=some (.bool j)∧w.cell? ⟨b,i*4+3,none⟩=some (.slice a g c)∧RatAt w (.agg #[.bool s,.slice B m d,.bool j,.slice a g c]) q:=by
 obtain⟨o,f,n,l⟩:=h;obtain⟨s,B,m,d,j,a,g,c,e,k⟩:=l i q hi;exact⟨s,B,m,d,j,a,g,c,f.cell 0 e rfl,f.cell 1 e rfl,f.cell 2 e rfl,f.cell 3 e rfl,k⟩
theorem OwnR.stored (h:OwnR w b qs) {i:Nat} (hi:i<qs.length) {s a:Bool} {A o:Option Addr} {l c p c':Nat} {q:Rat} (hn:RatAt w (.agg #[.bool s,.slice A l c,.bool a,.slice o p c']) q):
  let W:=(((w.setCell ⟨b,i*4,none⟩ (.bool s)).setCell ⟨b,i*4+1,none⟩ (.slice A l c)).setCell ⟨b,i*4+2,none⟩ (.bool a)).setCell ⟨b,i*4+3,none⟩ (.slice o p c')
  OwnR W b (qs.set i q)∧kO b w W:=by
 obtain⟨v,J,U,I⟩:=h;obtain⟨Y,x,B,y,r,d,n,f,H,Z⟩:=I i qs[i] (aL hi);have u:i<v.length:=by omega
 have K:=J.set 0 H (by omega) (.bool s);have E:(v.set i ([Value.bool Y,.slice x B y,.bool r,.slice d n f].set 0 (.bool s)))[i]? =some [.bool s,.slice x B y,.bool r,.slice d n f]:=by rw[List.getElem?_set_self u];rfl
 have C:=K.set 1 E (by omega) (.slice A l c);rw[List.set_set] at C;have F:(v.set i ([Value.bool s,.slice x B y,.bool r,.slice d n f].set 1 (.slice A l c)))[i]? =some [.bool s,.slice A l c,.bool r,.slice d n f]:=by rw[List.getElem?_set_self u];rfl
 have D:=C.set 2 F (by omega) (.bool a);rw[List.set_set] at D;have G:(v.set i ([Value.bool s,.slice A l c,.bool r,.slice d n f].set 2 (.bool a)))[i]? =some [.bool s,.slice A l c,.bool a,.slice d n f]:=by rw[List.getElem?_set_self u];rfl
 have L:=D.set 3 G (by omega) (.slice o p c');rw[List.set_set] at L
 have z:Keep w ((((w.setCell ⟨b,i*4,none⟩ (.bool s)).setCell ⟨b,i*4+1,none⟩ (.slice A l c)).setCell ⟨b,i*4+2,none⟩ (.bool a)).setCell ⟨b,i*4+3,none⟩ (.slice o p c')):=
  (((Keep.put (J.cell 0 H rfl) (NoInt.bool _) _).trans (Keep.put (K.cell 1 E rfl) (NoInt.slice _ _ _) _)).trans (Keep.put (C.cell 2 F rfl) (NoInt.bool _) _)).trans (Keep.put (D.cell 3 G rfl) (NoInt.slice _ _ _) _)
 refine⟨⟨_,L,by simpa using U,fun j m k=> ?_⟩,z,fun g t=> ?_,by simp,rfl,rfl,rfl⟩
 ·by_cases e:i=j
  ·subst e;rw[List.getElem?_set_self hi] at k;injection k with k;subst k;exact⟨s,A,l,c,a,o,p,c',by rw[List.getElem?_set_self u];rfl,hn.keep z⟩
  ·rw[List.getElem?_set_ne e] at k;obtain⟨M,N,O,P,Q,R,S,T,V,X⟩:=I j m k;exact⟨M,N,O,P,Q,R,S,T,by rw[List.getElem?_set_ne e];exact V,X.keep z⟩
 ·rw[Below.heap_setCell _ ⟨b,i*4+3,none⟩ _ g t,Below.heap_setCell _ ⟨b,i*4+2,none⟩ _ g t,Below.heap_setCell _ ⟨b,i*4+1,none⟩ _ g t,Below.heap_setCell _ ⟨b,i*4,none⟩ _ g t]
theorem RatAt.zero (w:World):RatAt w (.agg #[.bool false,.slice none 0 0,.bool false,.slice none 0 0]) 0:=RatAt.of (IntAt.zero w) (IntAt.zero w) rfl rfl
theorem OwnR.made {n:Nat} (h:Rw w b 4 (List.replicate n [.bool false,.slice none 0 0,.bool false,.slice none 0 0]) 66):OwnR w b (List.replicate n 0):=
 ⟨_,h,by simp,fun i m c=>⟨false,none,0,0,false,none,0,0,by
  have:=(List.getElem?_eq_some_iff.1 c).1;rw[cN] at this;rw[List.getElem?_replicate,if_pos this],by
  have:=List.getElem?_replicate (n:=n) (a:=(0:Rat)) (i:=i);rw[c] at this;split at this
  ·injection this with this;subst this;exact RatAt.zero w
  ·cases this⟩⟩
end
def StrsAt (w:World) (v:Value) (ls:List (List UInt8)):Prop:=∃A c,v= .slice A ls.length c∧ls.length<=c∧(ls=[]∨∃b off,A=some ⟨b,off,none⟩∧b<w.heap.size∧∀(i:Nat) (l:List UInt8),ls[i]? =some l->w.cell? ⟨b,off+i,none⟩=some (.string ⟨l.toArray⟩))
theorem StrsAt.below {w w':World} {v:Value} {ls:List (List UInt8)} (h:StrsAt w v ls) (a:Below w.heap.size w w'):StrsAt w' v ls:=by
 obtain⟨A,c,hv,g,h⟩:=h;refine⟨A,c,hv,g,?_⟩;rcases h with h|⟨b,f,e,d,j⟩
 ·exact .inl h
 ·exact .inr ⟨b,f,e,aU d a.size,fun i l h=>(a.cell (p:=⟨b,f+i,none⟩) d).trans (j i l h)⟩
theorem StrsAt.form {w:World} {v:Value} {ls:List (List UInt8)} (h:StrsAt w v ls):∃A c,v= .slice A ls.length c∧ls.length<=c:=by
 obtain⟨A,c,hv,a,_⟩:=h;exact⟨A,c,hv,a⟩
theorem StrsAt.nil (w:World) (A:Option Addr) (c:Nat):StrsAt w (.slice A 0 c) []:=⟨A,c,rfl,Nat.zero_le _,.inl rfl⟩
theorem StrsAt.at_ {w:World} {A:Option Addr} {c l:Nat} {ls:List (List UInt8)} (h:StrsAt w (.slice A l c) ls) {i:Nat} {t:List UInt8} (hi:ls[i]? =some t):
  ∃b off,A=some ⟨b,off,none⟩∧b<w.heap.size∧w.cell? ⟨b,off+i,none⟩=some (.string ⟨t.toArray⟩):=by
 obtain⟨f,g,e,j,h⟩:=h;simp only[Value.slice.injEq] at e;obtain⟨rfl,rfl,rfl⟩:=e;rcases h with h|⟨b,off,e,d,a⟩
 ·rw[h] at hi;simp at hi
 ·exact⟨b,off,e,d,a i t hi⟩
def rd (l:List UInt8):Bool:=(d7 l).isSome
def aN (ls:List (List UInt8)):List Rat:=ls.map (fun l=>(d7 l).getD 0)
theorem O0 (ls:List (List UInt8)) (v:Value) (w:World) (Z:Glob w) (hv:StrsAt w v ls) (hl:ls.length<=1073741824) (ad:∀l∈ls,l.length<=1073741824):
  Calls Tryz.prog 104 #[v] w fun e w'=>∃V,e= .returned (.tuple #[V,.bool (ls.all rd)])∧(ls.all rd=true->∃g,V= .slice (some ⟨g,0,none⟩) ls.length ls.length∧w.heap.size<=g∧OwnR w' g (aN ls))∧Below w.heap.size w w':=by
 obtain⟨A,c,rfl,hc⟩:=hv.form;have U:(aN ls).length=ls.length:=bK _;have s:=aB U;clear U;go_enter Tryz.func104,Tryz.ntmps104;go_wp2_with (at_make;refine gJ rfl rfl 66 _ 4 64 Tryz.underlying152 BC rfl (by decide) ls.length rfl rfl rfl rfl (by omega) (by omega) ?_;intro w1 ag Q J);have H:=OwnR.made Q;clear Q ag;go_loopg [14] ls.length (fun k i wr=>∃j,Hid (j+k=ls.length)∧i= .int .i64 j∧OwnR wr w.heap.size ((aN ls).take j++List.replicate k 0)∧Hid ((ls.take j).all rd=true)∧Below w.heap.size w wr)
 case atStart=>exact⟨0,by unfold Hid;omega,rfl,by simpa using H,by unfold Hid;simp,J⟩
 case round=>
  clear H J;obtain⟨j,d,rfl,R,p,a⟩:=hrel;generalize wr=wx at *;have al:(0:Int)<=(j:Int):=by omega
  cases gk with
  |zero=>
   have N:j=ls.length:=d.out;have I:ls.all rd=true:=by
    have:=p.out;rw[N,List.take_length] at this;exact this
   subst N;rw[List.replicate_zero,List.append_nil,cA (by rw[s.out];exact aE)] at R;have W:=aB I;clear I p;go_wp2_with fail;go_ret2;rw[W.out];exact⟨_,rfl,fun _=>⟨w.heap.size,rfl,aE,R⟩,a⟩
  |succ k=>
   obtain⟨t,f⟩:∃t,ls[j]? =some t:=⟨_,aL (by have:=d.out;omega)⟩;obtain⟨b,ao,rfl,ak,g0⟩:=(hv.below a).at_ f;have af:=ad t (cH f);have am:(j:Int)<(ls.length:Int):=by have:=d.out;omega
   have T:(aN ls)[j]? =some ((d7 t).getD 0):=by unfold aN;rw[List.getElem?_map,f];rfl
   have y:=lS (ys:=aN ls) (z:=(0:Rat)) (j:=j) (k:=k+1) (by rw[s.out];exact d.out);have L:=lR (z:=(0:Rat)) (k:=k) T;have ai:=aB y;have X:=aB L;have M:j<((aN ls).take j++List.replicate (k+1) 0).length:=by rw[y,s.out];have:=d.out;omega
   have S:(ls.take (j+1)).all rd=rd t:=by rw[List.take_add_one,f,Option.toList_some,List.all_append,p.out];simp
   have O:rd t=false->ls.all rd=false:=fun h=>by
    rw[List.all_eq_false];exact⟨t,cH f,by rw[h];simp⟩
   have r:=aB S;have q:=aB O;clear T y L S O f;go_wp2_with fail;refine(EB t _ (Z.below a) af).mono ?_;rintro e2 G ⟨v2,rfl,m,K⟩;obtain⟨E,n,C,u,F,o,D,x,rfl⟩:=m.form;replace R:=R.below K;replace a:=aC a K;have B:(d7 t).isSome=rd t:=rfl;rw[B];cases hrd:rd t with
   |false=>
    have Y:=aB (q.out hrd);clear q r hrd B;go_wp2_with fail;go_ret2;rw[Y.out];exact⟨_,rfl,(fun h=>by cases h),a.alloc a.size _⟩
   |true=>
    rw[hrd] at r;clear q hrd B;replace R:=R.below ((aH G.heap.size G).alloc aE (.cells #[.bool E,.slice n C u,.bool F,.slice o D x] 66));replace m:=m.keep (Keep.alloc G (.cells #[.bool E,.slice n C u,.bool F,.slice o D x] 66));have ac:=a.alloc a.size (.cells #[.bool E,.slice n C u,.bool F,.slice o D x] 66);obtain⟨s',B',l',d',ap,ah,an,aj,q0,q1,q2,q3, -⟩:=R.at_ (aL M);have f0:=R.free (j*4);have f1:=R.free (j*4+1);have f2:=R.free (j*4+2);have f3:=R.free (j*4+3);go_wp2_with fail;obtain⟨P,ae⟩:=R.stored M m;rw[X.out] at P;have ab:=fS ac ae aE;go_roundg k
    case rel=>exact⟨j+1,by have:=d.out;unfold Hid;omega,by go_num,P,r,ab⟩
    case measure=>omega
theorem O1 (ls:List (List UInt8)) (v:Value) (w:World) (b:Glob w) (hv:StrsAt w v ls) (i:ls.length<=1073741824) (j:∀l∈ls,l.length<=1073741824):
  Calls Tryz.prog 104 #[v] w fun e w'=>∃a,e= .returned (.tuple #[a,.bool (ls.all rd)])∧(ls.all rd=true->RatsAt w' a (aN ls))∧Below w.heap.size w w':=
 (O0 ls v w b hv i j).mono (fun e w' ⟨a,f,h,d⟩=>⟨a,f,fun c=>by
  obtain⟨g,rfl, -,R⟩:=h c;have hn:(aN ls).length=ls.length:=bK _;have:=R.rats ls.length (by rw[hn];exact aE);rw[hn] at this;exact this,d⟩)
theorem NW (q:Rat) (v:Value) (w:World) (i:RatAt w v q) (l:nl q.num.natAbs<=17592186044416):
  Calls Tryz.prog 105 #[v] w fun e w'=>e= .returned (.bool (decide (q=0)))∧Below w.heap.size w w':=by
 obtain⟨s,A,k,c,f,a,d,b,rfl⟩:=i.form;have m:Bx (w.alloc (.cells #[.bool s,.slice A k c,.bool f,.slice a d b] 66)) (w.heap.size) [.bool s,.slice A k c,.bool f,.slice a d b] 66:=Bx.newAt w [.bool s,.slice A k c,.bool f,.slice a d b] 66 (w.heap.size) (by simp);have g:Below w.heap.size w (w.alloc (.cells #[.bool s,.slice A k c,.bool f,.slice a d b] 66)):=(aH _ _).alloc (by simp) _;go_enter Tryz.func105,Tryz.ntmps105;go_wp2_with fail;generalize w.alloc (.cells #[.bool s,.slice A k c,.bool f,.slice a d b] 66)=W at *;have h:=(i.below g).num;refine(fD _ _ _ h l).mono ?_;rintro n o ⟨rfl,j⟩;go_wp2;go_ret;exact⟨rfl,aC g j⟩
theorem NX (n:Int):Lib.itoa n=gA n:=by
 unfold Lib.itoa gA;by_cases h:n<0
 ·rw[if_pos h,if_pos h];rfl
 ·rw[if_neg h,if_neg h,List.nil_append,show n.toNat=n.natAbs by omega]
theorem NY (n:Int) (c: -9223372036854775808<=n) (d:n<=9223372036854775807) (w:World) (f:Glob w):
  Calls Tryz.prog 131 #[.int .i64 n] w fun e w'=>e= .returned (.string ⟨(gA n).toArray⟩)∧Below w.heap.size w w':=by
 have a:=Tryz.strconv_FormatInt_10 n c d w f.pow;rw[NX] at a;go_enter Tryz.func131,Tryz.ntmps131;go_wp2_with fail;refine a.mono ?_;rintro e i ⟨rfl,k,h,b⟩;have g:Below w.heap.size w i:=by rw[b];exact Lib.below_grow w.heap.size w aE k h
 clear b;go_wp2;go_ret;exact⟨rfl,g⟩
theorem tG (n K:Nat) (h:nl n<=K):(Lib.decDigits n).length<=20*K+1:=by
 rw[Lib.decDigits_length];refine oX ?_ (by omega);refine aU (cJ n) ?_;have b:BN^nl n<=BN^K:=cE (by decide) h;have a:BN^K<=(10^20)^K:=Nat.pow_le_pow_left (by decide) K;rw[<-Nat.pow_mul] at a;have c:10^(20*K)<=10^(20*K+1):=cE (by decide) (by omega);omega
theorem NZ (x:Int) (K:Nat) (h:nl x.natAbs<=K):(gA x).length<=20*K+2:=by
 unfold gA;have:=tG x.natAbs K h;rw[aY];split<;>simp<;>omega
theorem tH (q:Rat) (v:Value) (w:World) (z:Glob w) (J:RatAt w v q) (K:Nat) (hK:RL K q) (al:K<=1073741824):
  Calls Tryz.prog 63 #[v] w fun e w'=>e= .returned (.string ⟨(bD q).toArray⟩)∧Below w.heap.size w w':=by
 obtain⟨s,A,k,c,n,h,j,i,rfl⟩:=J.form;obtain⟨ad,am⟩:=hK;have an:=kH q;have a:Bx (w.alloc (.cells #[.bool s,.slice A k c,.bool n,.slice h j i] 66)) (w.heap.size) [.bool s,.slice A k c,.bool n,.slice h j i] 66:=Bx.newAt w [.bool s,.slice A k c,.bool n,.slice h j i] 66 (w.heap.size) (by simp);have b:Below w.heap.size w (w.alloc (.cells #[.bool s,.slice A k c,.bool n,.slice h j i] 66)):=(aH _ _).alloc (by simp) _;go_enter Tryz.func63,Tryz.ntmps63;go_wp2_with fail;generalize w.alloc (.cells #[.bool s,.slice A k c,.bool n,.slice h j i] 66)=W at *;have hn:=(J.below b).num;have d:=(J.below b).den;refine(fD _ _ _ d (by omega)).mono ?_;rintro e1 f ⟨rfl,F⟩;replace a:=a.below F;replace N:=a.cell 0 rfl;replace O:=a.cell 1 rfl;replace D:=a.cell 2 rfl;replace E:=a.cell 3 rfl;replace m:=Keep.below F;replace hn:=hn.keep m;replace d:=d.keep m;replace b:=aC b F;by_cases o:bI q=0
 ·have t:decide (bI q=0)=true:=by simpa using o
  have u:bD q=gA q.num:=by unfold bD gA;rw[if_pos (eK.1 o),List.append_nil]
  have x:=aB u;rw[t];clear t o u;go_wp2_with fail;refine(K0 _ _ _ hn (by omega)).mono ?_;rintro e2 w2 ⟨rfl,G⟩;replace a:=a.below G;replace N:=a.cell 0 rfl;replace O:=a.cell 1 rfl;replace D:=a.cell 2 rfl;replace E:=a.cell 3 rfl;replace m:=Keep.below G;replace hn:=hn.keep m;replace d:=d.keep m;replace b:=aC b G;cases hf:iD q.num with
  |true=>
   rw[if_pos rfl];have V: -9223372036854775808<=q.num∧q.num<=9223372036854775807:=by unfold iD at hf;simpa using hf
   clear hf;go_wp2_with fail;refine(NY q.num V.1 V.2 _ (z.below b)).mono ?_;rintro e3 w3 ⟨rfl,H⟩;go_wp2;go_ret;rw[x.out];exact⟨rfl,aC b H⟩
  |false=>
   clear hf;go_wp2_with fail;refine(O6 q.num _ _ (z.below b) hn (by omega)).mono ?_;rintro e3 w3 ⟨rfl,H⟩;go_wp2;go_ret;rw[x.out];exact⟨rfl,aC b H⟩
 ·have t:decide (bI q=0)=false:=by simpa using o
  have I:q.den≠1:=fun e=>o (eK.2 e);have T:bI q=q.den:=kZ I;have U:gA (bI q)=Lib.decDigits q.den:=by unfold gA;rw[T,if_neg (by omega)];rfl
  have u:bD q=(gA q.num++[47])++gA (bI q):=by unfold bD;rw[U,if_neg I];unfold gA;simp
  have x:=aB u;have ao:=NZ q.num K ad;rw[t];clear t o u U T I;go_wp2_with fail;refine(xB f.heap.size (.slice none 0 0) [] q.num s A k c f (z.below b).globB aE (TxtAt.nil _ _) hn (Apart.nil _) (by omega) (by simp)).mono ?_;rintro e7 Y ⟨M,rfl,y,t7⟩;rw[List.nil_append] at y;have S:=d.blk;have R:=b;have ac:=(z.below b).globB;have ak:=a.lt;have r:Below f.heap.size f Y:=t7.belowB aE (fun g e=>by simp[Value.ownBlock] at e);have X:=r.size;replace a:=a.below r;replace N:=a.cell 0 rfl;replace O:=a.cell 1 rfl;replace D:=a.cell 2 rfl;replace E:=a.cell 3 rfl;replace m:=Keep.below r;replace d:=d.keep m;replace b:=aC b r;have ab:=y;unfold TxtAt at y;have L:=ab.lt;have n7:M.ownBlock≠some w.heap.size:=fun e=>by have:=(L _ e).1;omega
  have Q:Apart M (.slice h j i):=fun g e Z=>by have:=(L g e).1;have:=S g Z;omega
  go_wp2_with (at_builtin;refine fE rfl rfl 5 _ 1 1 Tryz.underlying177 kP rfl (by decide) f.heap.size M (gA q.num).length _ rfl (y.alloc _) [Value.int .u8 47] rfl (by simp) (j0 _ _ _) (by simp[Value.oneCell']) (by omega) (by omega) (by simp;omega) ?_;intro q1 C aj ai ae;have p:=TxtAt.more (bs:=gA q.num) (l:=[47]) aj ai ae;replace a:=a.txt p.2 n7;replace D:=a.cell 2 rfl;replace E:=a.cell 3 rfl);have ah:IntAt C (.agg #[.bool n,.slice h j i]) (bI q):=IntAt.of (d.words.txt p.2 Q) d.neg;have ag:Below f.heap.size Y C:=p.2.belowB X (fun g e=>(L g e).1);have B:Below f.heap.size f C:=r.trans ag;refine(xB f.heap.size q1 (gA q.num++[47]) (bI q) n h j i C (ac.on B) B.size p.1 ah (p.2.apart Q (fun g e=>aU (S g e) X)) (by omega) (by simp;omega)).mono ?_;rintro e9 w9 ⟨v9,rfl,P,t9⟩;rw[<-x.out] at P;have hc:=P.str;have af:=B.trans (t9.belowB B.size (fun g e=>(p.1.lt g e).1));go_wp2;go_ret;exact⟨rfl,aC R af⟩
theorem DR:(Tryz.prog.info? 9).map (fun i=>(i.zero,i.size,i.bytes))=some (some (.string ⟨#[]⟩),1,16):=by kernel_rfl
def OwnS (w:World) (b:Nat) (ls:List (List UInt8)):Prop:=∃cs,Bx w b cs 9∧ls.length<=cs.length∧∀(i:Nat) (l:List UInt8),ls[i]? =some l->cs[i]? =some (Value.string ⟨l.toArray⟩)
section
variable {w w':World} {b:Nat} {ls:List (List UInt8)}
theorem OwnS.below (h:OwnS w b ls) (f:Below w.heap.size w w'):OwnS w' b ls:=by
 obtain⟨a,c,d,e⟩:=h;exact⟨a,c.below f,d,e⟩
theorem OwnS.made {n:Nat} (h:Rw w b 1 (List.replicate n [.string ⟨#[]⟩]) 9):OwnS w b (List.replicate n []):=by
 have e:(List.replicate n [Value.string ⟨#[]⟩]).flatten=List.replicate n (Value.string ⟨#[]⟩):=by
  induction n with
  |zero=>rfl
  |succ n d=>simp[List.replicate_succ]
 refine⟨_,by have:=h.1;rw[e] at this;exact this,by simp,fun i l a=> ?_⟩;have c:=(List.getElem?_eq_some_iff.1 a).1;rw[cN] at c;rw[List.getElem?_replicate,if_pos c] at a⊢;injection a with a;rw[<-a]
theorem OwnS.at_ (h:OwnS w b ls) {i:Nat} {l:List UInt8} (hi:ls[i]? =some l):w.cell? ⟨b,i,none⟩=some (.string ⟨l.toArray⟩):=by
 obtain⟨d,a,e,c⟩:=h;exact a.cell i (c i l hi)
theorem OwnS.free (h:OwnS w b ls) (j:Nat):w.frozen? ⟨b,j,none⟩=false:=by
 obtain⟨c,a,_⟩:=h;exact a.free j
theorem OwnS.strs (h:OwnS w b ls) (c:Nat) (e:ls.length<=c):StrsAt w (.slice (some ⟨b,0,none⟩) ls.length c) ls:=by
 obtain⟨g,a,j,d⟩:=h;exact⟨_,c,rfl,e,.inr ⟨b,0,rfl,a.lt,fun i l f=>by rw[aS];exact a.cell i (d i l f)⟩⟩
theorem OwnS.stored (h:OwnS w b ls) {i:Nat} (hi:i<ls.length) (l:List UInt8):OwnS (w.setCell ⟨b,i,none⟩ (.string ⟨l.toArray⟩)) b (ls.set i l)∧kO b w (w.setCell ⟨b,i,none⟩ (.string ⟨l.toArray⟩)):=by
 obtain⟨f,c,k,d⟩:=h;have m:=c.cell i (d i _ (aL hi));refine⟨⟨f.set i (.string ⟨l.toArray⟩),c.set i _,by simpa using k,fun j t a=> ?_⟩,Keep.put m (NoInt.string _) _,fun g n=>Below.heap_setCell _ ⟨b,i,none⟩ _ g n,by simp,rfl,rfl,rfl⟩;by_cases e:i=j
 ·subst e;rw[List.getElem?_set_self hi] at a;injection a with a;subst a;rw[List.getElem?_set_self (by omega)]
 ·rw[List.getElem?_set_ne e] at a⊢;exact d j t a
end
theorem NV (a:List Rat) (v:Value) (w:World) (P:Glob w) (hv:RatsAt w v a) (K:Nat) (Q:∀q∈a,RL K q) (S:K<=1073741824) (hl:a.length<=1073741824):
  Calls Tryz.prog 112 #[v] w fun e w'=>∃N,e= .returned N∧StrsAt w' N (a.map bD)∧Below w.heap.size w w':=by
 obtain⟨A,c,rfl,hc⟩:=hv.form;have J:(a.map bD).length=a.length:=bK _;have h:=aB J;clear J;go_enter Tryz.func112,Tryz.ntmps112;go_wp2_with (at_make;refine gJ rfl rfl 9 _ 1 16 Tryz.underlying22 DR rfl (by decide) a.length rfl rfl rfl rfl (by omega) (by omega) ?_;intro w1 X G x);have t:=OwnS.made G;clear G X;go_loopg [11] a.length (fun k i wr=>∃j,Hid (j+k=a.length)∧i= .int .i64 j∧OwnS wr w.heap.size ((a.map bD).take j++List.replicate k [])∧Below w.heap.size w wr)
 case atStart=>exact⟨0,by unfold Hid;omega,rfl,by simpa using t,x⟩
 case round=>
  clear t x;obtain⟨j,g,rfl,R,f⟩:=hrel;generalize wr=n at *;have ac:(0:Int)<=(j:Int):=by omega
  cases gk with
  |zero=>
   have V:j=a.length:=g.out;subst V;rw[List.replicate_zero,List.append_nil,cA (by rw[h.out];exact aE)] at R;have H:=R.strs a.length (by rw[h.out];exact aE);rw[h.out] at H;go_wp2_with fail;go_ret;exact⟨_,rfl,H,f⟩
  |succ k=>
   obtain⟨q,l⟩:∃q,a[j]? =some q:=⟨_,aL (by have:=g.out;omega)⟩;obtain⟨b,s,B,m,d,M,r,L,u,rfl,ab,g0,g1,g2,g3,p⟩:=(hv.below f).at_ l;have T:=Q q (cH l);have ad:(j:Int)<(a.length:Int):=by have:=g.out;omega
   have I:(a.map bD)[j]? =some (bD q):=by rw[List.getElem?_map,l];rfl
   have C:=lS (ys:=a.map bD) (z:=([]:List UInt8)) (j:=j) (k:=k+1) (by rw[h.out];exact g.out);have D:=lR (z:=([]:List UInt8)) (k:=k) I;have E:j<((a.map bD).take j++List.replicate (k+1) []).length:=by rw[C,h.out];have:=g.out;omega
   have O:=aB D;clear I C D l;go_wp2_with fail;have o:Below n.heap.size n (n.alloc (.cells #[.bool s,.slice B m d,.bool M,.slice r L u] 66)):=(aH _ _).alloc aE _;replace p:=p.below o;replace R:=R.below o;replace f:=aC f o;generalize n.alloc (.cells #[.bool s,.slice B m d,.bool M,.slice r L u] 66)=wa at *;refine(tH q _ _ (P.below f) p K T S).mono ?_;rintro Z w2 ⟨rfl,y⟩;replace R:=R.below y;replace f:=aC f y;have q0:=R.at_ (aL E);have f0:=R.free j;generalize bD q=Y at *;go_wp2_with fail;obtain⟨F,W⟩:=R.stored E Y;rw[O.out] at F;have U:=fS f W aE;go_roundg k
   case rel=>exact⟨j+1,by have:=g.out;unfold Hid;omega,by go_num,F,U⟩
   case measure=>omega
abbrev Z0:Obj:= .cells #[.bool false,.slice none 0 0] 59
class St (a:outParam World) (b:World):Prop where
 out:Below a.heap.size a b
instance (w:World) (o:Obj):St w (w.alloc o):=⟨(aH _ _).alloc aE _⟩
instance (w:World):St w w.drew:=⟨(aH _ _).drew⟩
class Up (a b:World):Prop where
 out:Below a.heap.size a b
instance (a:World):Up a a:=⟨aH _ _⟩
instance (a b c:World) [s:St b c] [u:Up a b]:Up a c:=⟨u.out.trans (s.out.mono u.out.size)⟩
class Nw (a:World) (g:Nat):Prop where
 out:a.heap.size<=g
instance (a b:World) [u:Up a b]:Nw a b.heap.size:=⟨u.out.size⟩
instance (a b:World) [u:Up a b]:Nw a (b.heap.size+1):=⟨Nat.le_succ_of_le u.out.size⟩
instance (a b:World) (g o:Nat) (v:Value) [n:Nw a g] [u:Up a b]:Up a (b.setCell ⟨g,o,none⟩ v):=⟨u.out.setCell (p:=⟨g,o,none⟩) n.out v⟩
section
variable {a b:World} [u:Up a b]
theorem NatAt.up {v:Value} {n:Nat} (h:NatAt a v n):NatAt b v n:=h.below u.out
theorem IntAt.up {v:Value} {n:Int} (h:IntAt a v n):IntAt b v n:=h.below u.out
theorem RatAt.up {v:Value} {n:Rat} (h:RatAt a v n):RatAt b v n:=h.below u.out
theorem WholeAt.up {v:Value} {n:List Int} (h:WholeAt a v n):WholeAt b v n:=h.below u.out
theorem StrsAt.up {v:Value} {n:List (List UInt8)} (h:StrsAt a v n):StrsAt b v n:=h.below u.out
theorem RatsAt.up {v:Value} {n:List Rat} (h:RatsAt a v n):RatsAt b v n:=h.below u.out
theorem Bx.up {g:Nat} {cs:List Value} {t:TypeId} (h:Bx a g cs t):Bx b g cs t:=h.below u.out
theorem OwnW.up {g:Nat} {n:List Int} (h:OwnW a g n):OwnW b g n:=h.below u.out
theorem OwnS.up {g:Nat} {n:List (List UInt8)} (h:OwnS a g n):OwnS b g n:=h.below u.out
theorem Glob.up (h:Glob a):Glob b:=h.below u.out
theorem eG {w:World} (h:Below w.heap.size w a):Below w.heap.size w b:=h.trans (u.out.mono h.size)
end
theorem dd {w:World} {g:Nat} {c d:Value} {t:TypeId} (h:Bx w g [c,d] t):(C2 w g c d∧Fz w g)∧(∀o:Obj,C2 (w.alloc o) g c d∧Fz (w.alloc o) g)∧g≠w.heap.size∧w.heap.size≠g:=
 ⟨h.g2,fun o=>(h.alloc o).g2,Nat.ne_of_lt h.lt,Nat.ne_of_gt h.lt⟩
