/- Laws. -/
import Derived.Test.YtmiaanioldpfgaaGreatDoorX08
import Derived.Deep.AppendSrc
import Derived.Shelf.Strconv.AppendUint10
set_option linter.all false
set_option maxHeartbeats 8000000
set_option maxRecDepth 99999
namespace Go.Proofs.YtmiaanioldpfgaaGreatDoor
open Go.RowKit Sos Tryz
variable{b c g i j k l:Nat}{r:List Value}{v:Value}{W w w':World}{a d ns q:List Int}{s:Bool}{A:Option Addr}{m n:Int}
section
variable {α:Type}{k:Nat}
def mW{rows:List (List α)}(d:∀r∈rows,r.length=k){r:List α}(hi:rows[i]? =some r)(f:j<k):rows.flatten[i*k+j]? =r[j]? :=by
 induction rows generalizing i with
 |nil=>simp at hi
 |cons a rows e=>
  have c:a.length=k:=d a (iC ..);cases i with
  |zero=>
   simp at hi;subst hi;rw[aqU,azW,bA,gA (by omega)]
  |succ i=>
   rw[aqU,fK (by rw[c,aq2];omega),c,show(i+1)*k+j-k=i*k+j by rw[aq2];omega];exact e (fun r h=>d r (j8 _ h)) (by simpa using hi)
def OE{rows:List (List α)}(d:∀r∈rows,r.length=k){r:List α}(hi:rows[i]? =some r)(f:j<k)(v:α):rows.flatten.set (i*k+j) v=(rows.set i (r.set j v)).flatten:=by
 induction rows generalizing i with
 |nil=>simp at hi
 |cons a rows e=>
  have c:a.length=k:=d a (iC ..);cases i with
  |zero=>
   simp at hi;subst hi;rw[aqU,azW,bA,List.set_append_left _ _ (by omega),bzS,aqU]
  |succ i=>
   rw[aqU,bzR _ _ (by rw[c,aq2];omega),c,show(i+1)*k+j-k=i*k+j by rw[aq2];omega,e (fun r h=>d r (j8 _ h)) (by simpa using hi),List.set_cons_succ,aqU]
def mX{rows:List (List α)}(c:∀r∈rows,r.length=k):rows.flatten.length=rows.length*k:=by
 induction rows with
 |nil=>simp
 |cons a rows d=>rw[aqU,bN,d (fun r h=>c r (j8 _ h)),c a (iC ..),eG,aq2];omega
end
def Rw(w:World)(b k:Nat)(rows:List (List Value))(t:TypeId):Prop:=Bx w b rows.flatten t∧∀r∈rows,r.length=k
section
variable {w w':World}{b k:Nat}{rows:List (List Value)}{t:TypeId}
def Rw.lt(h:Rw w b k rows t):b<w.1.size:=h.1.lt
def Rw.cell(h:Rw w b k rows t)(j:Nat)(hi:rows[i]? =some r)(hv:r[j]? =some v):w.cell? ⟨b,i*k+j,none⟩=some v:=by
 have c:=h.2 r (dG hi);have a:j<k:=by rw[<-c];exact(List.getElem?_eq_some_iff.1 hv).1
 exact h.1.cell _ ((mW h.2 hi a).trans hv)
def Rw.free(h:Rw w b k rows t)(j:Nat):w.frozen? ⟨b,j,none⟩=false:=h.1.free j
def Rw.be(h:Rw w b k rows t)(a:Below w.1.size w w'):Rw w' b k rows t:=⟨h.1.be a,h.2⟩
def Rw.alloc(h:Rw w b k rows t)(o:Obj):Rw (w.alloc o) b k rows t:=⟨h.1.alloc o,h.2⟩
def Rw.drew(h:Rw w b k rows t):Rw w.drew b k rows t:=h
def Rw.far(h:Rw w b k rows t)(o:Nat)(v:Value)(a:g≠b):Rw (w.setCell ⟨g,o,none⟩ v) b k rows t:=⟨h.1.far o v a,h.2⟩
def Rw.set(h:Rw w b k rows t)(j:Nat)(hi:rows[i]? =some r)(c:j<k)(v:Value):Rw (w.setCell ⟨b,i*k+j,none⟩ v) b k (rows.set i (r.set j v)) t:=by
 refine⟨?_,fun e d=> ?_⟩
 ·rw[<-OE h.2 hi c];exact h.1.set _ _
 ·rcases bz8 d with a|rfl
  ·exact h.2 _ a
  ·rw[eM];exact h.2 _ (dG hi)
end
def IRow(w:World)(rows:List (List Value))(ns:List Int):Prop:=∀(i:Nat) (n:Int),ns[i]? =some n->∃s A l c,rows[i]? =some [Value.bool s,Value.slice A l c]∧IntAt w (.agg #[.bool s,.slice A l c]) n
def IRow.ke{rows:List (List Value)}(h:IRow w rows ns)(e:Keep w w'):IRow w' rows ns:=fun i n hi=>by
 obtain⟨s,A,l,c,a,d⟩:=h i n hi;exact⟨s,A,l,c,a,d.ke e⟩
def IRow.take{rows:List (List Value)}(h:IRow w rows ns)(m:Nat):IRow w rows (ns.take m):=fun i n hi=>by
 rw[fC] at hi;split at hi
 ·exact h i n hi
 ·cases hi
def IRow.set{rows:List (List Value)}(h:IRow w rows ns)(u:ns.length<=rows.length)(hn:IntAt w (.agg #[.bool s,.slice A l c]) n):IRow w (rows.set i [.bool s,.slice A l c]) (ns.set i n):=fun j m a=>by
 by_cases e:i=j
 ·subst e;have p:i<ns.length:=by
   have:=(List.getElem?_eq_some_iff.1 a).1;rw[eM] at this;exact this
  rw[gP p] at a;injection a with a;subst a;exact⟨s,A,l,c,by rw[gP (by omega)],hn⟩
 ·rw[lI e] at a;obtain⟨r,d,q,f,g,o⟩:=h j m a;exact⟨r,d,q,f,by rw[lI e];exact g,o⟩
def WholeAt(w:World)(v:Value)(ns:List Int):Prop:=∃A c,v= .slice A ns.length c∧ns.length<=c∧(ns=[]∨∃b rows,A=some ⟨b,0,none⟩∧Rw w b 2 rows 77∧IRow w rows ns)
def WholeAt.be(h:WholeAt w v ns)(a:Below w.1.size w w'):WholeAt w' v ns:=by
 obtain⟨A,c,hv,d,h⟩:=h;refine⟨A,c,hv,d,?_⟩;rcases h with h|⟨b,rows,e,g,f⟩
 ·exact .inl h
 ·exact .inr ⟨b,rows,e,g.be a,f.ke (Keep.be a)⟩
def WholeAt.drew(h:WholeAt w v ns):WholeAt w.drew v ns:=h.be (aG _ _).drew
def WholeAt.nil(w:World)(A:Option Addr)(c:Nat):WholeAt w (.slice A 0 c) []:=⟨A,c,rfl,dC _,.inl rfl⟩
def WholeAt.cut(h:WholeAt w (.slice A l c) ns)(m:Nat)(d:m<=ns.length):WholeAt w (.slice A m c) (ns.take m):=by
 obtain⟨g,i,e,j,h⟩:=h;simp only[Value.slice.injEq] at e;obtain⟨rfl,rfl,rfl⟩:=e;refine⟨A,c,by rw[bK,y8 d],by rw[bK];omega,?_⟩;rcases h with h|⟨b,rows,e,f,a⟩
 ·exact .inl (by rw[h];simp)
 ·exact .inr ⟨b,rows,e,f,a.take m⟩
def WholeAt.at_(h:WholeAt w (.slice A l c) ns)(hi:ns[i]? =some n):
  ∃b s B m d,A=some ⟨b,0,none⟩∧b<w.1.size∧w.cell? ⟨b,i*2,none⟩=some (.bool s)∧w.cell? ⟨b,i*2+1,none⟩=some (.slice B m d)∧IntAt w (.agg #[.bool s,.slice B m d]) n:=by
 obtain⟨o,p,e,q,h⟩:=h;simp only[Value.slice.injEq] at e;obtain⟨rfl,rfl,rfl⟩:=e;rcases h with h|⟨b,rows,e,a,j⟩
 ·rw[h] at hi;simp at hi
 ·obtain⟨s,B,m,d,f,g⟩:=j i n hi;exact⟨b,s,B,m,d,e,a.lt,a.cell 0 f rfl,a.cell 1 f rfl,g⟩
def WholeAt.form(h:WholeAt w v ns):∃A c,v= .slice A ns.length c∧ns.length<=c:=by
 obtain⟨A,c,hv,a,_⟩:=h;exact⟨A,c,hv,a⟩
def OwnW(w:World)(b:Nat)(ns:List Int):Prop:=∃rows,Rw w b 2 rows 77∧ns.length<=rows.length∧IRow w rows ns
section
variable {w w':World}{b:Nat}{ns:List Int}
def OwnW.lt(h:OwnW w b ns):b<w.1.size:=by
 obtain⟨rows,a,_⟩:=h;exact a.lt
def OwnW.be(h:OwnW w b ns)(a:Below w.1.size w w'):OwnW w' b ns:=by
 obtain⟨rows,e,d,c⟩:=h;exact⟨rows,e.be a,d,c.ke (Keep.be a)⟩
def OwnW.alloc(h:OwnW w b ns)(o:Obj):OwnW (w.alloc o) b ns:=h.be ((aG _ _).alloc aE _)
def OwnW.drew(h:OwnW w b ns):OwnW w.drew b ns:=h.be (aG _ _).drew
def OwnW.far(h:OwnW w b ns){o:Nat}{c:Value}(i:w.cell? ⟨g,o,none⟩=some c)(a:NoInt c)(v:Value)(f:g≠b):OwnW (w.setCell ⟨g,o,none⟩ v) b ns:=by
 obtain⟨rows,j,e,d⟩:=h;exact⟨rows,j.far o v f,e,d.ke (Keep.put i a v)⟩
def OwnW.whole(h:OwnW w b ns)(c:Nat)(a:ns.length<=c):WholeAt w (.slice (some ⟨b,0,none⟩) ns.length c) ns:=by
 obtain⟨rows,e,f,d⟩:=h;exact⟨_,c,rfl,a,.inr ⟨b,rows,rfl,e,d⟩⟩
def OwnW.take(h:OwnW w b ns)(m:Nat):OwnW w b (ns.take m):=by
 obtain⟨rows,c,d,a⟩:=h;exact⟨rows,c,by rw[bK];omega,a.take m⟩
def OwnW.at_(h:OwnW w b ns)(hi:ns[i]? =some n):∃s B m d,w.cell? ⟨b,i*2,none⟩=some (.bool s)∧w.cell? ⟨b,i*2+1,none⟩=some (.slice B m d)∧IntAt w (.agg #[.bool s,.slice B m d]) n:=by
 obtain⟨rows,c,g,f⟩:=h;obtain⟨s,B,m,d,a,e⟩:=f i n hi;exact⟨s,B,m,d,c.cell 0 a rfl,c.cell 1 a rfl,e⟩
def OwnW.free(h:OwnW w b ns)(j:Nat):w.frozen? ⟨b,j,none⟩=false:=by
 obtain⟨rows,a,_⟩:=h;exact a.free j
def OwnW.put(h:OwnW w b ns)(hi:i<ns.length)(hn:IntAt w (.agg #[.bool s,.slice A l c]) n):
  let W:=(w.setCell ⟨b,i*2,none⟩ (.bool s)).setCell ⟨b,i*2+1,none⟩ (.slice A l c)
  OwnW W b (ns.set i n)∧Keep w W∧W.1.size=w.1.size:=by
 obtain⟨rows,o,m,j⟩:=h;obtain⟨v,d,p,e,g,x⟩:=j i ns[i] (aR hi);have q:=o.set 0 g (by omega) (.bool s);have r:i<rows.length:=by omega
 have f:(rows.set i ([Value.bool v,.slice d p e].set 0 (.bool s)))[i]? =some [.bool s,.slice d p e]:=by rw[gP r];rfl
 have u:=q.set 1 f (by omega) (.slice A l c)
 have a:Keep w ((w.setCell ⟨b,i*2,none⟩ (.bool s)).setCell ⟨b,i*2+1,none⟩ (.slice A l c)):=
  (Keep.put (o.cell 0 g rfl) (NoInt.bool _) _).trans (Keep.put (q.cell 1 f rfl) (NoInt.slice _ _ _) _)
 refine⟨⟨_,u,by simpa using m,?_⟩,a,by simp⟩;have:=(j.ke a).set m (i:=i) (hn.ke a);simpa using this
end
def fy0(z:Array Value)(n:Nat)(g:0<z.size):(madeCells z (n*z.size)).toList=(List.replicate n z.toList).flatten:=by
 have d:∀r∈List.replicate n z.toList,r.length=z.size:=fun r h=>by rw[byK h];simp
 have l:(List.replicate n z.toList).flatten.length=n*z.size:=by rw[mX d,dB]
 refine aq6 (fun j=> ?_);by_cases c:j<n*z.size
 ·have k:j/z.size<n:=by rw[Nat.div_lt_iff_lt_mul g];exact c
  have f:j%z.size<z.size:=dI _ g;have e:j=j/z.size*z.size+j%z.size:=by rw[dN];exact(iD j z.size).symm
  have b:=mW (rows:=List.replicate n z.toList) d (i:=j/z.size) (j:=j%z.size) (r:=z.toList) (by rw[j6,if_pos k]) f;rw[<-e] at b;rw[b];unfold madeCells;rw[Array.getElem?_toList];simp[c,f]
 ·rw[fU (by simp[size_madeCells];omega),fU (by omega)]
section
variable {P:Program}{w:World}{ops:Array Oper}{rest:List Oper}{o:Oper}{a:Act}{Q:Exit->Act->World->Prop}
def jT(A:o.guard=none){l c:Operand}{t:TypeId}(E:o.op=Op.makeSlice t l c)(e:TypeId)(z:Value)(d f:Nat)
  (m:P.underlying t=some (.slice e))(hi:(P.info? e).map (fun i=>(i.zero,i.size,i.bytes))=some (some z,d,f))(g:z.cells.size=d)(J:0<d)(n:Nat){k j:IntKind}{L C:Int}
  (D:a.eval l= .int k L)(y:a.eval c= .int j C)(u:L=(n:Int))(p:C=(n:Int))(H:f*n<=281474976710656)(I:n<=9223372036854775807)
  (q:∀w',w.1.size<w'.1.size->Rw w' w.1.size d (List.replicate n z.cells.toList) e->Below w.1.size w w'->
   wpList P ops Q rest (a.put o.dst (.slice (some ⟨w.1.size,0,none⟩) n n)) w'):wpList P ops Q (o :: rest) a w:=by
 obtain⟨i,B,G,F,x⟩:=info_parts hi;subst u p x;have v:(i.bytes:Int)*(n:Int)<=281474976710656:=by
  have h:((i.bytes*n:Nat):Int)<=281474976710656:=by omega
  rwa [az8] at h
 have b:=run_make (P:=P) w t e i z m B G k j n n (by omega) (by omega) v (by omega);simp only[j9] at b;refine wpList_plain A fun K s=> ?_;unfold Oper.wp;simp[execOp,E,D,y,b,Result.andThen];refine s _ _ (q _ ?_ ?_ ?_)
 ·simp
 ·refine⟨?_,fun r b=>by rw[byK b];simpa using g⟩;have:=heap_alloc_new w (.cells (madeCells z.cells (n*i.size)) e);unfold Bx;rw[this,F,<-g,<-fy0 z.cells n (by omega)]
 ·exact(aG _ _).alloc aE _
end
def p6:(Tryz.prog.info? 77).map (fun i=>(i.zero,i.size,i.bytes))=some (some (.agg #[.bool false,.slice none 0 0]),2,32):=by kernel_rfl
def OC:(Tryz.prog.info? 86).map (fun i=>(i.zero,i.size,i.bytes))=some (some (.agg #[.bool false,.slice none 0 0,.bool false,.slice none 0 0]),4,64):=by kernel_rfl
def OwnW.made{n:Nat}(h:Rw w b 2 (List.replicate n [.bool false,.slice none 0 0]) 77):OwnW w b (List.replicate n 0):=
 ⟨_,h,by simp,fun i m c=>⟨false,none,0,0,by
  have:=(List.getElem?_eq_some_iff.1 c).1;rw[dB] at this;rw[j6,if_pos this],by
  have:=j6 (n:=n) (a:=(0:Int)) (i:=i);rw[c] at this;split at this
  ·injection this with this;subst this;exact IntAt.zero w
  ·cases this⟩⟩
def ezL(f:List Int)(A:Option Addr)(c:Nat)(w:World)(hv:WholeAt w (.slice A f.length c) f)(K:Nat)(G:∀n∈f,nl n.natAbs<=K)(S:K<=17592186044416)(W:f.length<=1099511627776):
  Calls prog 67 #[.slice A f.length c] w fun e w'=>e= .returned (.slice A (aW aV f).length c)∧WholeAt w' (.slice A (aW aV f).length c) (aW aV f)∧Below w.1.size w w':=by
 have U:f.length<=c:=by
  obtain⟨L,M,e,h,_⟩:=hv;simp only[Value.slice.injEq] at e;omega
 go_enter func67,ntmps67;go_wp2_with fail;go_loopg [3] f.length (fun k i wr=>∃m,Hid (m=k)∧i= .int .i64 m∧m<=f.length∧Hid (aW aV (f.take m)=aW aV f)∧Below w.1.size w wr)
 case atStart=>exact⟨f.length,rfl,rfl,aE,by unfold Hid;rw[aq9],aG _ _⟩
 case round=>
  obtain⟨m,u,rfl,z,q,j⟩:=hrel;have X:(0:Int)<=(m:Int):=by omega
  cases gk with
  |zero=>
   obtain rfl:m=0:=u.out;have r:Hid (aW aV f=[]):=q.out.symm;go_wp2;go_ret;rw[r.out];exact⟨rfl,WholeAt.nil _ _ _,j⟩
  |succ k=>
   have I:m=k+1:=u.out;subst I;obtain⟨n,hn⟩:∃n,f[k]? =some n:=⟨_,aR (by omega)⟩;obtain⟨b,s,B,l,d,rfl,T,O,R,H⟩:=(hv.be j).at_ hn;have V:=G n (dG hn);have J:=(hv.be j).cut (k+1) z;have y:=zV aV f hn;have C:=zW aV f hn;have E:=aB y;have F:=aB C;clear y C;have Y:((k:Int)+1)<=(f.length:Int):=by omega
   have Z:k+1<=c:=by omega
   go_wp2_with fail;refine(g9 n _ _ H (by omega)).mono ?_;rintro N w1 ⟨rfl,x⟩;have v:=aC j x;by_cases p:n=0
   ·have g:decide (n=0)=true:=by simpa using p
    have t:aV n=true:=g;rw[g];clear g p;go_wp2;go_roundg k
    case rel=>exact⟨k,rfl,by go_num,by omega,by unfold Hid;rw[<-E.out t];exact q.out,v⟩
    case measure=>omega
   ·have g:decide (n=0)=false:=by simpa using p
    have t:aV n=false:=g;rw[g];have D:aW aV f=f.take (k+1):=by rw[<-q.out];exact F.out t
    have r:=aB D;clear g p D;go_wp2;go_ret;rw[r.out,bK,y8 z];exact⟨rfl,J.be x,v⟩
def rH{α:Type}{ys:List α}{z y:α}(b:ys[j]? =some y):(ys.take j++List.replicate (k+1) z).set j y=ys.take (j+1)++List.replicate k z:=by
 have d:j<ys.length:=(List.getElem?_eq_some_iff.1 b).1;have c:(ys.take j).length=j:=by rw[bK];omega
 rw[bzR _ _ (by omega),c,azV,aqV,bzS,Q9,b,aqO,eK];rfl
def rI{α:Type}{ys:List α}{z:α}(h:j+k=ys.length):(ys.take j++List.replicate k z).length=ys.length:=by
 rw[bN,bK,dB];omega
def czQ(n:Nat)(v:Value):Prop:=∀a l c,v= .slice (some a) l c->n<=a.block
def cqE(f:List Int)(x:Int)(v vx:Value)(w:World)(hv:WholeAt w v f)(C:IntAt w vx x)(K:Nat)(H:∀n∈f,nl n.natAbs<=K)(av:nl x.natAbs<=K)(al:2*K<=17592186044416)(hl:f.length<=1099511627776):
  Calls prog 33 #[v,vx] w fun e w'=>∃M,e= .returned M∧WholeAt w' M (aW aV (f.map (·*x)))∧czQ w.1.size M∧Below w.1.size w w':=by
 obtain⟨A,c,rfl,hc⟩:=hv.form;obtain⟨E,u,D,y,rfl⟩:=C.form;have h:Bx (w.alloc (.cells #[.bool E,.slice u D y] 77)) (w.1.size) [.bool E,.slice u D y] 77:=Bx.newAt w [.bool E,.slice u D y] 77 (w.1.size) (by simp);have g:Below w.1.size w (w.alloc (.cells #[.bool E,.slice u D y] 77)):=(aG _ _).alloc (by simp) _;go_enter func33,ntmps33;go_wp2_with (at_make;refine jT rfl rfl 77 _ 2 32 underlying74 p6 rfl (by decide) f.length rfl rfl rfl rfl (by omega) (by omega) ?_;intro w1 ao Y I);have S:OwnW w1 (w.1.size+1) (List.replicate f.length 0):=by
  have:=OwnW.made Y;rw[World.size_alloc] at this;exact this
 replace h:=h.be I;replace g:=aC g I;clear Y ao I;have ad:(f.map (·*x)).length=f.length:=cH _;have r:=aB ad;clear ad;go_loopg [13] f.length (fun k i wr=>∃j,Hid (j+k=f.length)∧i= .int .i64 j∧OwnW wr (w.1.size+1) ((f.map (·*x)).take j++List.replicate k 0)∧Bx wr w.1.size [.bool E,.slice u D y] 77∧Below w.1.size w wr)
 case atStart=>exact⟨0,by unfold Hid;omega,rfl,by simpa using S,h,g⟩
 case round=>
  clear S h g;obtain⟨j,t,rfl,R,h,g⟩:=hrel;have ax:(0:Int)<=(j:Int):=by omega
  cases gk with
  |zero=>
   have hj:j=f.length:=t.out;subst hj;rw[aq8,fH,cZ (by rw[r.out];exact aE)] at R;have L:=R.whole f.length (by rw[r.out];exact aE);rw[r.out] at L;have ab:WholeAt wr (.slice (some ⟨w.1.size+1,0,none⟩) (f.map (·*x)).length f.length) (f.map (·*x)):=by rw[r.out];exact L
   have Z:=ezL (f.map (·*x)) _ _ wr ab (2*K) (fun n hn=>by
    obtain⟨m,hm,rfl⟩:=List.mem_map.1 hn;rw[fL];have:=fI m.natAbs x.natAbs;have:=H m hm;omega) al (by rw[r.out];exact hl)
   rw[r.out] at Z;clear r H L ab;go_wp2_with fail;refine Z.mono ?_;rintro e2 w2 ⟨rfl,G,F⟩;go_wp2;go_ret;exact⟨_,rfl,G,fun a l c e=>by injection e with e _ _;injection e with e;rw[<-e];exact Nat.le_succ _,aC g F⟩
  |succ k=>
   obtain⟨n,hn⟩:∃n,f[j]? =some n:=⟨_,aR (by have:=t.out;omega)⟩;obtain⟨b,s,B,l,d,rfl,aw,g0,g1,J⟩:=(hv.be g).at_ hn;have az:=H n (dG hn);have ay:(j:Int)<(f.length:Int):=by have:=t.out;omega
   have ac:(f.map (·*x))[j]? =some (n*x):=by rw[iK,hn];rfl
   have U:=rI (ys:=f.map (·*x)) (z:=(0:Int)) (j:=j) (k:=k+1) (by rw[r.out];exact t.out);have V:=rH (z:=(0:Int)) (k:=k) ac;have O:=aB U;have ak:=aB V;have HN:=aB hn;clear ac U V hn;replace C:=C.be g;have af:∀q:Obj,(wr.alloc q).cell? ⟨w.1.size,0,none⟩=some (.bool E):=fun q=>(h.alloc q).cell 0 rfl;have ah:∀q:Obj,(wr.alloc q).frozen? ⟨w.1.size,0,none⟩=false:=fun q=>(h.alloc q).free 0;have ag:∀q:Obj,(wr.alloc q).cell? ⟨w.1.size,1,none⟩=some (.slice u D y):=fun q=>(h.alloc q).cell 1 rfl;have ai:∀q:Obj,(wr.alloc q).frozen? ⟨w.1.size,1,none⟩=false:=fun q=>(h.alloc q).free 1;go_wp2_with fail;replace R:=R.alloc (.cells #[.bool s,.slice B l d] 77);replace J:=J.ke (Keep.alloc wr (.cells #[.bool s,.slice B l d] 77));replace C:=C.ke (Keep.alloc wr (.cells #[.bool s,.slice B l d] 77));have aj:=h.lt;have an:=g.size;replace h:=h.alloc (.cells #[.bool s,.slice B l d] 77);have X:=Bx.newAt wr [.bool s,.slice B l d] 77 (wr.1.size) (by simp);replace g:=g.alloc g.size (.cells #[.bool s,.slice B l d] 77);replace hk:=Keep.alloc wr (.cells #[.bool s,.slice B l d] 77);generalize wr.alloc (.cells #[.bool s,.slice B l d] 77)=W1 at *;replace ap:=h.cell 0 rfl;replace aq:=h.cell 1 rfl;replace ar:=X.cell 0 rfl;replace au:=X.cell 1 rfl;clear af ag ah ai g0 g1 aj an;refine(jB n x _ _ _ J C (by omega)).mono ?_;rintro e2 w2 ⟨v2,rfl,G,F⟩;obtain⟨s2,N,k2,T,rfl⟩:=G.form;replace R:=R.be F;replace h:=h.be F;replace g:=aC g F;obtain⟨s',B',l',d',q0,q1, -⟩:=R.at_ (i:=j) (aR (by rw[O.out,r.out];have:=t.out;omega));have f0:=R.free (j*2);have f1:=R.free (j*2+1);go_wp2_with fail;have W:=R.put (i:=j) (by rw[O.out,r.out];have:=t.out;omega) G;rw[ak.out] at W;have ae:=(h.far (j*2) (.bool s2) (show w.1.size+1≠w.1.size by omega)).far (j*2+1) (.slice N k2 T) (show w.1.size+1≠w.1.size by omega);have am:=(g.setCell (p:=⟨w.1.size+1,j*2,none⟩) (by simp) (.bool s2)).setCell (p:=⟨w.1.size+1,j*2+1,none⟩) (by simp) (.slice N k2 T);go_roundg k
   case rel=>exact⟨j+1,by have:=t.out;unfold Hid;omega,by go_num,W.1,ae,am⟩
   case measure=>omega
def OD(b:List Int)(x:Int)(v d:Value)(w:World)(hv:WholeAt w v b)(m:IntAt w d x)(K:Nat)(i:∀n∈b,nl n.natAbs<=K)(k:nl x.natAbs<=K)(j:2*K<=17592186044416)(l:b.length<=1099511627776):
  Calls prog 33 #[v,d] w fun e w'=>∃c,e= .returned c∧WholeAt w' c (aW aV (b.map (·*x)))∧Below w.1.size w w':=
 (cqE b x v d w hv m K i k j l).mono fun _ _ ⟨c,f,g,_,h⟩=>⟨c,f,g,h⟩
def IntAt.blk(h:IntAt w (.agg #[.bool s,.slice A k c]) n):∀g,(Value.slice A k c).ownBlock=some g->g<w.1.size:=fun _ e=>h.words.block e
def SumAt.mono{p Z L M a:Nat}{s:Int}(h:SumAt w p Z L M s)(r:M<=a):SumAt w p Z L a s:=by
 obtain⟨m,nv,o,n,b,c,d,e,f,g,i,j,k,l,q⟩:=h;exact⟨m,nv,o,n,b,c,d,e,f,g,i,j,k,l,by omega⟩
def WholeAt.get(h:WholeAt w (.slice A l c) a)(hi:i<a.length):
  ∃b s B m d,A=some ⟨b,0,none⟩∧b<w.1.size∧w.cell? ⟨b,i*2,none⟩=some (.bool s)∧w.cell? ⟨b,i*2+1,none⟩=some (.slice B m d)∧IntAt w (.agg #[.bool s,.slice B m d]) (cf a i)∧cf a i∈a:=by
 obtain⟨b,s,B,m,d,e,f,g,j,k⟩:=h.at_ (aR hi);exact⟨b,s,B,m,d,e,f,g,j,by rw[fZ hi];exact k,by rw[fZ hi];exact aq0 hi⟩
def ez4(a:List Int)(v:Value)(w:World)(hv:WholeAt w v a)(n:a≠[])(z:a.length<=1099511627776):
  Calls prog 60 #[v] w (dW w (cf a (a.length-1))):=by
 obtain⟨A,c,rfl,y⟩:=hv.form;have q:a.length≠0:=fun e=>n (bX e);obtain⟨m,r⟩:∃m,a.length=m+1:=⟨a.length-1,by omega⟩;have G:((a.length:Int)==0)=false:=by simp;omega
 obtain⟨b,s,B,l,d,rfl,j,g,h,k, -⟩:=hv.get (i:=a.length-1) (by omega);have x:(a.length:Int)-1=(m:Int):=by omega
 have f:a.length-1=m:=by omega
 rw[f] at g h k⊢;have C:(0:Int)<=(m:Int):=by omega
 have D:(m:Int)<(a.length:Int):=by omega
 have E:=fun o=>(((aG w.1.size w).alloc aE o).cell (p:=⟨b,m*2,none⟩) j).trans g;have F:=fun o=>(((aG w.1.size w).alloc aE o).cell (p:=⟨b,m*2+1,none⟩) j).trans h;clear q n f r;go_enter func60,ntmps60;go_wp2_with fail;have R:=Bx.new w [.bool s,.slice B l d] 77;have t:=R.cell 0 rfl;have u:=R.cell 1 rfl;exact aM (v:= .agg #[.bool s,.slice B l d]) (by simp[results,results60,go_sem]) rfl ⟨_,rfl,k.ke (Keep.alloc _ _),(aG _ _).alloc aE _⟩
def BO{α:Type}(k:Nat):∀(n:Nat) (l:List α),l.length=n*k->∃rows:List (List α),rows.length=n∧rows.flatten=l∧∀r∈rows,r.length=k
 |0,l,h=>⟨[],rfl,by rw[azW] at h;exact(bX h).symm,fun _ h=>by cases h⟩
 |n+1,l,h=>by
  rw[aq2] at h;obtain⟨rows,b,c,d⟩:=BO k n (l.drop k) (by rw[gG];omega);refine⟨l.take k :: rows,by rw[eG,b],by rw[aqU,c,List.take_append_drop],fun r a=> ?_⟩;rcases List.mem_cons.1 a with rfl|a
  ·rw[bK];omega
  ·exact d r a
def I9{f n:Nat}{rows:List (List Value)}(h:w.ownsRow f 77 2 v n rows.flatten)(C:∀r∈rows,r.length=2)(hn:rows.length=n)(E:d.length=n)(I:0<n)(hi:IRow w rows d):
  ∃g cap,v= .slice (some ⟨g,0,none⟩) n cap∧f<=g∧g<w.1.size∧n<=cap∧cap<=maxLen∧OwnW w g d:=by
 rcases h.2 with ⟨_,H⟩|⟨g,cap,u,rfl,z,o,B,D,F,G⟩
 ·omega
 ·obtain⟨t,J,k,a⟩:=BO 2 cap u.toList (by simpa using F);refine⟨g,cap,rfl,z,(Array.getElem?_eq_some_iff.1 o).1,B,D,t,⟨?_,a⟩,by omega,fun i m q=> ?_⟩
  ·unfold Bx;rw[o,k]
  ·obtain⟨s,A,l,c,x,y⟩:=hi i m q;refine⟨s,A,l,c,?_,y⟩;have K:i<n:=by rw[<-E];exact(List.getElem?_eq_some_iff.1 q).1
   obtain⟨e,b⟩:∃e,t[i]? =some e:=⟨_,aR (by omega)⟩;rw[b];congr 1;have L:=a e (dG b);refine aq6 (fun j=> ?_);by_cases p:j<2
   ·rw[<-mW a b p,<-mW C x p,k,<-G,fC,if_pos (by omega)]
   ·rw[fU (by omega),fU (by simp;omega)]
def WholeAt.rows(h:WholeAt w (.slice A l c) a)(x:a≠[]):
  ∃rows:List (List Value),rows.length=l∧l=a.length∧(∀r∈rows,r.length=2)∧Src w A rows.flatten∧IRow w rows a∧∀u∈rows.flatten,u.oneCell'=true:=by
 obtain⟨C,D,e,E,h⟩:=h;simp only[Value.slice.injEq] at e;obtain⟨rfl,rfl,rfl⟩:=e;obtain⟨b,rows,rfl,p,k⟩:=h.resolve_left x;have G:a.length<=rows.length:=by
  rcases dE rows.length a.length with f|f
  ·obtain⟨s,A,l,c,d,_⟩:=k rows.length _ (aR f);simp at d
  ·exact f
 have m:∀r∈rows.take a.length,r.length=2:=fun r h=>p.2 r (lH h);have o:∀i r,(rows.take a.length)[i]? =some r->i<a.length∧rows[i]? =some r:=fun i r h=>by
  rw[fC] at h;split at h
  ·exact⟨by assumption,h⟩
  ·cases h
 refine⟨rows.take a.length,by rw[bK];omega,rfl,m,.inr ⟨b,0,rfl,fun j u g=> ?_⟩,fun i n hn=> ?_,fun u g=> ?_⟩
 ·have F:j<a.length*2:=by
   have:=(List.getElem?_eq_some_iff.1 g).1;rw[mX m,bK] at this;omega
  obtain⟨r,t⟩:∃r,(rows.take a.length)[j/2]? =some r:=⟨_,aR (by rw[bK];omega)⟩;have f:=mW m t (show j%2<2 by omega);have e:j/2*2+j%2=j:=by omega
  rw[e,g] at f;have:=p.cell (j%2) (o _ _ t).2 f.symm;rw[e] at this;rw[bA];exact this
 ·obtain⟨s,A,l,c,d,v⟩:=k i n hn;exact⟨s,A,l,c,by rw[fC,if_pos (List.getElem?_eq_some_iff.1 hn).1];exact d,v⟩
 ·obtain⟨r,B,q⟩:=List.mem_flatten.1 g;obtain⟨i,z⟩:=List.mem_iff_getElem?.1 B;obtain⟨f,y⟩:=o i r z;obtain⟨s,A,l,c,d,_⟩:=k i _ (aR f);rw[y] at d;injection d with d;subst d;simp at q;rcases q with rfl|rfl<;>rfl
def IA{α:Type}{ys xs:List α}{y:α}(a:ys[j]? =some y)(d:xs.length=ys.length):(ys.take j++xs.drop j).set j y=ys.take (j+1)++xs.drop (j+1):=by
 have c:j<ys.length:=(List.getElem?_eq_some_iff.1 a).1;have b:(ys.take j).length=j:=by rw[bK];omega
 rw[bzR _ _ (by omega),b,azV,Q9,a,aqO,eK,j5 (show j<xs.length by omega),bzS];rfl
def IB{α:Type}{ys xs:List α}(h:j<xs.length)(b:xs.length=ys.length):(ys.take j++xs.drop j)[j]? =xs[j]? :=by
 have a:(ys.take j).length=j:=by rw[bK];omega
 rw[fK (by omega),a,azV,aqM,gQ]
def IC{α:Type}{ys xs:List α}(a:xs.length=ys.length):(ys.take j++xs.drop j).length=xs.length:=by
 rw[bN,bK,gG];omega
def kZ(r v:List Int)(a lead:Int)(k m:Nat):List Int:=(List.range m).map (fun i=>cf r i*lead-(if k<=i then a*cf v (i-k) else 0))
def nZ(q:List Int)(a lead:Int)(k:Nat):List Int:=(q.map (·*lead)).set k (cf q k*lead+a)
def T3(q:List Int)(a lead:Int)(b:k<q.length)(j:Nat):cf (nZ q a lead k) j=cf q j*lead+(if j=k then a else 0):=by
 unfold nZ cf;rw[eF,eF];by_cases e:j=k
 ·subst e;rw[if_pos rfl,gP (by simpa using b)];simp
 ·rw[if_neg e,lI (fun h=>e h.symm),iK,byE];cases hh:q[j]? <;>simp[hh]
def fq6(r v:List Int)(a lead:Int)(k m i:Nat):cf (kZ r v a lead k m) i=if i<m then cf r i*lead-(if k<=i then a*cf v (i-k) else 0) else 0:=qA _ m i
def eyX{lead:Int}{w v r:List Int}(hv:v≠[])(g:r.length=v.length+k)(f:k<q.length)(e:lead=cf v (v.length-1))
  (d:∀i,m*cf w i=conv (cf q) (cf v) i+cf r i)(i:Nat):
  (m*lead)*cf w i=conv (cf (nZ q (cf r (v.length-1+k)) lead k)) (cf v) i+cf (kZ r v (cf r (v.length-1+k)) lead k (v.length-1+k)) i:=by
 have c:0<v.length:=by
  cases v with
  |nil=>exact absurd rfl hv
  |cons a l=>simp
 have h:=fqF m (cf w) (cf q) (cf v) (cf r) v.length k c (fun i b=>bV b) (fun i b=>bV (by omega)) d i;rw[fq6,e,h];congr 1;exact gL (fun j=>(T3 q _ _ f j).symm) (fun _=>rfl) i
def fq7{w v r:List Int}{n:Nat}(a:cf r n=0)(c:r.length=n+1)(b:∀i,m*cf w i=conv (cf q) (cf v) i+cf r i)(i:Nat):
  m*cf w i=conv (cf q) (cf v) i+cf (r.take n) i:=by
 rw[b i];congr 1;unfold cf at *;rw[eF,eF,fC];by_cases h:i<n
 ·rw[if_pos h]
 ·rw[if_neg h];by_cases e:i=n
  ·subst e;rw[eF] at a;exact a
  ·rw[fU (by omega)]
def IntBx(w:World)(b:Nat)(n:Int):Prop:=∃s A k c,Bx w b [.bool s,.slice A k c] 77∧IntAt w (.agg #[.bool s,.slice A k c]) n
def kR(g:Nat)(w W:World):Prop:=Keep w W∧(∀b,b≠g->W.heap[b]? =w.heap[b]?)∧W.1.size=w.1.size∧W.os=w.os∧W.tape=w.tape∧W.output=w.output
def IntBx.be(h:IntBx w b n)(a:Below w.1.size w W):IntBx W b n:=by
 obtain⟨s,A,k,c,d,e⟩:=h;exact⟨s,A,k,c,d.be a,e.be a⟩
def IntBx.step(h:IntBx w b n)(a:kR g w W)(f:b≠g):IntBx W b n:=by
 obtain⟨s,A,k,c,d,e⟩:=h;exact⟨s,A,k,c,(a.2.1 b f).trans d,e.ke a.1⟩
def IntBx.lt(h:IntBx w b n):b<w.1.size:=by
 obtain⟨s,A,k,c,a,d⟩:=h;exact a.lt
def OwnW.step(h:OwnW w b d)(c:kR g w W)(i:b≠g):OwnW W b d:=by
 obtain⟨j,a,f,e⟩:=h;exact⟨j,⟨(c.2.1 b i).trans a.1,a.2⟩,f,e.ke c.1⟩
def jD{B:Nat}{a:World}(h:Below B a w)(b:kR g w W)(d:B<=g):Below B a W:=
 ⟨b.2.2.2.1.trans h.os,b.2.2.2.2.1.trans h.tape,b.2.2.2.2.2.trans h.output,by rw[b.2.2.1];exact h.size,fun k c=>(b.2.1 k (by omega)).trans (h.block k c)⟩
def OwnW.stored(h:OwnW w b a)(hi:i<a.length)(hn:IntAt w (.agg #[.bool s,.slice A l c]) n):
  let W:=(w.setCell ⟨b,i*2,none⟩ (.bool s)).setCell ⟨b,i*2+1,none⟩ (.slice A l c)
  OwnW W b (a.set i n)∧kR b w W:=by
 obtain⟨e,f,j⟩:=h.put hi hn;refine⟨e,f,fun g d=> ?_,j,rfl,rfl,rfl⟩;rw[Below.heap_setCell _ ⟨b,i*2+1,none⟩ _ g d,Below.heap_setCell _ ⟨b,i*2,none⟩ _ g d]
def IntBx.stored(h:IntBx w b m)(hn:IntAt w (.agg #[.bool s,.slice A l c]) n):
  let W:=(w.setCell ⟨b,0,none⟩ (.bool s)).setCell ⟨b,1,none⟩ (.slice A l c)
  IntBx W b n∧kR b w W:=by
 obtain⟨v,i,t,j,e,o⟩:=h;obtain⟨-, -,f, -,d⟩:=jU (w:=w) (B:=0) (s:=s) (u:= .slice A l c) ⟨rfl,rfl,rfl,aE,fun k p=>rfl⟩ (dC _) e;refine⟨⟨s,A,l,c,f,hn.ke d⟩,d,fun g a=> ?_,by simp,rfl,rfl,rfl⟩;rw[Below.heap_setCell _ ⟨b,1,none⟩ _ g a,Below.heap_setCell _ ⟨b,0,none⟩ _ g a]
def WholeAt.step{i:List Int}(h:WholeAt w (.slice A l c) i)(f:kR g w W)(p:∀b,A=some ⟨b,0,none⟩->b≠g):WholeAt W (.slice A l c) i:=by
 obtain⟨j,k,e,n,h⟩:=h;refine⟨j,k,e,n,?_⟩;rcases h with h|⟨b,s,a,d,o⟩
 ·exact .inl h
 ·simp only[Value.slice.injEq] at e;exact .inr ⟨b,s,a,⟨(f.2.1 b (p b (e.1.trans a))).trans d.1,d.2⟩,o.ke f.1⟩
structure PQ(w wr:World)(b7 b8 b9 g:Nat)(m lead:Int)(q r:List Int):Prop where
 R:Bx wr w.1.size [.bool false,.slice none 0 0] 77
 M:IntBx wr b7 m
 L:IntBx wr b8 lead
 Q:OwnW wr b9 q
 S:OwnW wr g r
 hb:Below w.1.size w wr
 o1:w.1.size<b7
 o2:b7<b8
 o3:b8<b9
 o4:b9<g
section
variable {w wr W:World}{b7 b8 b9 g:Nat}{m lead:Int}{q r:List Int}
def PQ.be(h:PQ w wr b7 b8 b9 g m lead q r)(a:Below wr.1.size wr W):PQ w W b7 b8 b9 g m lead q r:=
 ⟨h.R.be a,h.M.be a,h.L.be a,h.Q.be a,h.S.be a,h.hb.trans (a.mono h.hb.size),h.o1,h.o2,h.o3,h.o4⟩
def PQ.alloc(h:PQ w wr b7 b8 b9 g m lead q r)(o:Obj):PQ w (wr.alloc o) b7 b8 b9 g m lead q r:=h.be ((aG _ _).alloc aE o)
def PQ.drew(h:PQ w wr b7 b8 b9 g m lead q r):PQ w wr.drew b7 b8 b9 g m lead q r:=h.be (aG _ _).drew
def PQ.cut(h:PQ w wr b7 b8 b9 g m lead q r)(n:Nat):PQ w wr b7 b8 b9 g m lead q (r.take n):=⟨h.R,h.M,h.L,h.Q,h.S.take n,h.hb,h.o1,h.o2,h.o3,h.o4⟩
def PQ.setQ(h:PQ w wr b7 b8 b9 g m lead q r)(hi:i<q.length)(hn:IntAt wr (.agg #[.bool s,.slice A l c]) n):
  PQ w ((wr.setCell ⟨b9,i*2,none⟩ (.bool s)).setCell ⟨b9,i*2+1,none⟩ (.slice A l c)) b7 b8 b9 g m lead (q.set i n) r:=by
 obtain⟨b,a⟩:=h.Q.stored hi hn;have:=h.o1;have:=h.o2;have:=h.o3;have:=h.o4
 exact⟨(a.2.1 _ (by omega)).trans h.R,h.M.step a (by omega),h.L.step a (by omega),b,h.S.step a (by omega),jD h.hb a (by omega),h.o1,h.o2,h.o3,h.o4⟩
def PQ.setS(h:PQ w wr b7 b8 b9 g m lead q r)(hi:i<r.length)(hn:IntAt wr (.agg #[.bool s,.slice A l c]) n):
  PQ w ((wr.setCell ⟨g,i*2,none⟩ (.bool s)).setCell ⟨g,i*2+1,none⟩ (.slice A l c)) b7 b8 b9 g m lead q (r.set i n):=by
 obtain⟨b,a⟩:=h.S.stored hi hn;have:=h.o1;have:=h.o2;have:=h.o3;have:=h.o4
 exact⟨(a.2.1 _ (by omega)).trans h.R,h.M.step a (by omega),h.L.step a (by omega),h.Q.step a (by omega),b,jD h.hb a (by omega),h.o1,h.o2,h.o3,h.o4⟩
def PQ.setM(h:PQ w wr b7 b8 b9 g m lead q r)(hn:IntAt wr (.agg #[.bool s,.slice A l c]) n):
  PQ w ((wr.setCell ⟨b7,0,none⟩ (.bool s)).setCell ⟨b7,1,none⟩ (.slice A l c)) b7 b8 b9 g n lead q r:=by
 obtain⟨b,a⟩:=h.M.stored hn;have:=h.o1;have:=h.o2;have:=h.o3;have:=h.o4
 exact⟨(a.2.1 _ (by omega)).trans h.R,b,h.L.step a (by omega),h.Q.step a (by omega),h.S.step a (by omega),jD h.hb a (by omega),h.o1,h.o2,h.o3,h.o4⟩
end
end Go.Proofs.YtmiaanioldpfgaaGreatDoor
namespace Go.Proofs.YtmiaanioldpfgaaGreatDoor
open Go.RowKit Sos Go.Sort Tryz
variable{e f vs:Value}
def IL{P:Program}{b:Array Oper}{rest:List Oper}{o:Oper}{a:Act}{w w':World}{Q:Exit->Act->World->Prop}(i:o.guard=none){s x:Operand}{t c d:TypeId}
  (j:o.op= .call { callee:= .builtin .append,args:= #[s,x],argTypes:= #[t,c] })(m:o.type=d)(l:a.eval s=vs)(n:a.eval x=f)(k:(Builtin.append_ #[t,c] d #[vs,f]).run P w= .ok e w')
  (h:wpList P b Q rest (a.put o.dst e) w'):wpList P b Q (o :: rest) a w:=by
 subst m;refine wpList_plain i fun K g=> ?_;unfold Oper.wp execOp;simp only[j,resolve,invoke,builtin,Sem.run_bind,Sem.run_pure,Result.andThen_ok,bxC,fM,aqJ,l,n,k];exact g _ _ h
def Apps(w:World)(g:Value)(l:List UInt8)(f:Value->World->Prop):Prop:=
 (∀b:World,Below w.1.size w b->∃d e,(Builtin.append_ #[137,9] 137 #[g,.string ⟨l.toArray⟩]).run prog b= .ok d e∧f d e)∧
 (∀(b:World) (a:Addr) (c:Nat),Below w.1.size w b->(∀j u,(Lib.byteCells l)[j]? =some u->b.cell? (a.add j)=some u)->∃d e,(Builtin.append_ #[137,137] 137 #[g,.slice (some a) l.length c]).run prog b= .ok d e∧f d e)
def IM(l:List UInt8):∀u∈Lib.byteCells l,u.oneCell'=true:=by
 intro u a;simp only[Lib.byteCells,List.mem_map] at a;obtain⟨b,_,rfl⟩:=a;rfl
def fqJ(w:World)(e:Value)(l:List UInt8)(d:Value->World->Prop)
  (h:∀(w1:World) (f:TypeId) (x:Value),Below w.1.size w w1->Go.Src prog 1 f x l.length (Lib.byteCells l) w1->∃g w',(Builtin.append_ #[137,f] 137 #[e,x]).run prog w1= .ok g w'∧d g w'):Apps w e l d:=by
 have j:(⟨l.toArray⟩:ByteArray).size=l.length:=by simp[ByteArray.size]
 refine⟨fun w1 b=>h w1 _ _ b ?_,fun w1 a c b i=>h w1 _ _ b ?_⟩
 ·have:=Go.Src.ofString (P:=prog) w1 underlying9 ⟨l.toArray⟩;rw[j] at this;exact this
 ·exact Go.Src.ofSlice w1 underlying137 _ _ _ _ (by rw[Lib.byteCells_length,az9]) i (IM l)
def wT{u:Nat}(a:u<BN):(Lib.decDigits u).length<=20:=by
 rw[Lib.decDigits_length];exact rS (by unfold BN at a;omega) (by decide)
def TU(b:Value)(u:Nat)(w:World)(a:Value->World->Prop)(i:u<100)(c:Apps w b (Lib.decDigits u) a):
  Calls prog 186 #[b,.int .u64 u,.int .i64 10] w fun e w'=>∃f,e= .returned f∧a f w':=by
 obtain⟨j,l,d,h⟩:=c.1 w (aG _ _);have g:=aB d;clear d c;have k:(u:Int)<100:=by omega
 go_enter func186,ntmps186;go_wp2_with fail;refine(Tryz.internal_strconv_small u i _).mono ?_;rintro e w' ⟨rfl,rfl⟩;go_wp2_with (at_builtin;refine IL rfl rfl rfl rfl rfl g.out ?_);go_ret;exact⟨j,rfl,h⟩
def TV(p:Value)(u:Nat)(w:World)(o:Value->World->Prop)(J:100<=u)(v:u<BN)(C:Glob w)(s:Apps w p (Lib.decDigits u) o):
  Calls prog 186 #[p,.int .u64 u,.int .i64 10] w fun e w'=>∃m,e= .returned m∧o m w':=by
 have E:1<=u:=by omega
 have x:u<18446744073709551616:=v;have H:Lib.nDigits u<=20:=by have:=wT v;rwa [Lib.decDigits_length] at this
 have r:Tryz.prog.arrayLen 229=24:=by simp[Program.arrayLen,underlying229]
 have I:∀W,(Instr.sliceAt 229 (.pointer (some ⟨w.1.size,0,none⟩)) none (some (.int .i64 (Lib.nDigits u:Int))) none).run prog W= .ok (.slice (some ⟨w.1.size,0,none⟩) (Lib.nDigits u) 24) W:=fun W=>by
  rw[run_sliceAt_array_h W 229 ⟨w.1.size,0,none⟩ (by simp[Program.arrayLen,Program.elem,underlying229]) .i64 (Lib.nDigits u:Int) (by omega) (by rw[r];omega)];go_simp
 have d:=Lib.holds_zero0 w 229 (Lib.nDigits u) (by omega);have g:=Tryz.internal_strconv_formatBase10 w.1.size 0 24 u (Array.replicate (Lib.nDigits u) 0) (w.alloc (.cells Lib.zeros24 229)) d (by rw[byZ];exact Lib.lt_pow_nDigits u) x (by rw[byZ];omega);rw[byZ] at g;have n:=aB d;have K:(100:Int)<=(u:Int):=by omega
 clear d r;go_enter func186,ntmps186;go_wp2_with fail;refine(Tryz.internal_strconv_numDigits u E x _ (Lib.tabIs_alloc C.pow _)).mono ?_;rintro e w' ⟨rfl,rfl⟩;go_wp2_with fail;refine g.mono ?_;rintro e w' ⟨rfl,k,m,a,rfl,hF⟩;have f:∀j l,(Lib.byteCells (Lib.decDigits u))[j]? =some l->((putRow (fun (b:UInt8)=>Value.int .u8 (b.toNat:Int)) (w.alloc (.cells Lib.zeros24 229)) w.1.size 0 a).drewN k).cell? ((⟨w.1.size,0,none⟩:Addr).add j)=some l:=by
  intro j l h;have c:j<(Lib.decDigits u).length:=by
   have B:=(List.getElem?_eq_some_iff.1 h).1;rwa [Lib.byteCells_length] at B
  have A:(Lib.byteCells (Lib.decDigits u))[j]? =some (Value.int .u8 ((Lib.decDigits u)[j].toNat:Int)):=by simp[Lib.byteCells,c]
  rw[A] at h;cases h;rw[Lib.row_is_numeral hF j c,Lib.add_plain,World.cell?_drewN];exact cell?_putRow (fun (b:UInt8)=>Value.int .u8 (b.toNat:Int)) _ w.1.size 0 _ a n.out (by rw[hF.size,byZ]) j (by rw[hF.size];rw[Lib.decDigits_length] at c;exact c)
 obtain⟨F,q⟩:=Lib.fin_at w (.cells Lib.zeros24 229) a k 0;have t:Below w.1.size w ((putRow (fun (b:UInt8)=>Value.int .u8 (b.toNat:Int)) (w.alloc (.cells Lib.zeros24 229)) w.1.size 0 a).drewN k):=by rw[q];exact Lib.below_grow w.1.size w aE k F
 generalize (putRow (fun (b:UInt8)=>Value.int .u8 (b.toNat:Int)) (w.alloc (.cells Lib.zeros24 229)) w.1.size 0 a).drewN k=z at f t⊢;clear q n g;obtain⟨G,L,i,D⟩:=s.2 z ⟨w.1.size,0,none⟩ 24 t f;rw[Lib.decDigits_length] at i;have y:=aB i;clear i s f;go_wp2_with (at_builtin;refine IL rfl rfl rfl rfl rfl y.out ?_);go_ret;exact⟨G,rfl,D⟩
def IN(b:Value)(u:Nat)(w:World)(a:Value->World->Prop)(i:u<BN)(f:Glob w)(d:Apps w b (Lib.decDigits u) a):
  Calls prog 158 #[b,.int .u64 u,.int .i64 10] w fun e w'=>∃c,e= .returned c∧a c w':=by
 have h:Calls prog 186 #[b,.int .u64 u,.int .i64 10] w fun e w'=>∃c,e= .returned c∧a c w':=by
  by_cases h:u<100
  ·exact TU b u w a h d
  ·exact TV b u w a (by omega) i f d
 clear d;go_enter func158,ntmps158;go_wp2_with fail;refine h.mono ?_;rintro e k ⟨j,rfl,g⟩;go_wp2;go_ret;exact⟨j,rfl,g⟩
