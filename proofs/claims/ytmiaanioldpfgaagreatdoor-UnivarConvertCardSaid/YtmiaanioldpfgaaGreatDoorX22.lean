/- Laws. -/
import Derived.Test.YtmiaanioldpfgaaGreatDoorX21
import Derived.Deep.RegionLawGrows
set_option linter.all false
set_option maxHeartbeats 8000000
set_option maxRecDepth 99999
namespace Go.Proofs.YtmiaanioldpfgaaGreatDoor
open Go.RowKit Sos Tryz
variable{a:List (List UInt8)}{C b c g i k l m n o:Nat}{u v:Value}{p:Addr}{e:List Int}{W w w':World}{A B d f r:Option Addr}{q:Rat}{t x:List UInt8}{qs:List Rat}
def K32(w w':World):Prop:=w.1.size<=w'.1.size∧∀p x,w.cell? p=some (Value.int .u32 x)->w'.cell? p=some (Value.int .u32 x)
section
variable {w w' W:World}{b B:Nat}{t:TypeId}{cs:List Value}
def K32.refl(w:World):K32 w w:=⟨aE,fun _ _ h=>h⟩
def K32.trans{a b c:World}(h:K32 a b)(k:K32 b c):K32 a c:=⟨aH h.1 k.1,fun p x d=>k.2 p x (h.2 p x d)⟩
def K32.km(h:KM w w'):K32 w w':=⟨h.1,fun p x a=>h.2 p _ x a⟩
def K32.be(a:Below w.1.size w w'):K32 w w':=K32.km (KM.be a)
def Mg.k32(h:Mg w v n)(a:K32 w w'):Mg w' v n:=by
 obtain⟨f,⟨A,c,hv,m,o,h⟩,g,j⟩:=h;refine⟨f,⟨A,c,hv,m,o,?_⟩,g,j⟩;rcases h with h|⟨b,e,q,k⟩
 ·exact .inl h
 ·exact .inr ⟨b,e,aZ q a.1,fun i d p=>a.2 _ _ (k i d p)⟩
def K32.put{c:Value}(f:w.cell? p=some c)(d:∀x,c≠ .int .u32 x)(v:Value):K32 w (w.setCell p v):=⟨by simp[World.setCell],fun q x a=>by
 by_cases e:q=p
 ·subst e;rw[f] at a;injection a with a;exact absurd a (d x)
 ·rw[World.cell?_setCell_other _ _ _ _ (by first|exact e|exact fun h=>e h.symm)];exact a⟩
def K32.grown{base:Nat}{e:TypeId}{rows:List (List Value)}(h:GrowD w base e k v rows)(g:w.grownBy w' v.ownBlock):K32 w w':=⟨g.size,fun p x a=>by
 by_cases c:v.ownBlock=some p.block
 ·rcases h.1.2 with ⟨rfl, -⟩|⟨o,cap,cur,rfl, -,i, -⟩
  ·simp[Value.ownBlock] at c
  ·simp[Value.ownBlock] at c;subst c;obtain⟨d,m,n⟩:=p;have j:n=none:=World.cell?_spot a;subst j;have f:w.heap[d]? =some (.cells cur _ (0,0)):=i;rw[cell_of_row w d m cur _ (0,0) f,<-Array.getElem?_toList] at a;exact absurd rfl (h.2.2 d rfl cur _ _ f _ (dG a) _ _)
 ·exact(World.cell?_of_block (g.block p.block (block_lt_of_cell a) (fun e=>c e.symm))).trans a⟩
end
def GrowD.lower{B:Nat}{e:TypeId}{rows:List (List Value)}(h:GrowD w B e k v rows)(j:c<=B):GrowD w c e k v rows:=by
 refine⟨⟨h.1.1,?_⟩,h.2⟩;rcases h.1.2 with a|⟨g,d,f,e,i,a⟩
 ·exact .inl a
 ·exact .inr ⟨g,d,f,e,aH j i,a⟩
def NI.k32{n:Int}(h:NI w v n)(a:K32 w w'):NI w' v n:=by
 obtain⟨u,e,h⟩:=h;exact⟨u,e,h.k32 a⟩
def NQ.k32(h:NQ w v q)(a:K32 w w'):NQ w' v q:=by
 obtain⟨s,u,f,g,e,c,d⟩:=h;exact⟨s,u,f,g,e,c.k32 a,d.k32 a⟩
abbrev TQ:=Rat×List Int
def TRw(w0 w:World)(rows:List (List Value))(l:List TQ):Prop:=rows.length=l.length∧∀(i:Nat) (t:TQ),l[i]? =some t->∃k a h e m c j f d g,rows[i]? =some [.bool k,.slice a h e,.bool m,.slice c j f,.slice d t.2.length g]∧NQ w (.agg #[.bool k,.slice a h e,.bool m,.slice c j f]) t.1∧IntsAt w0 (.slice d t.2.length g) t.2
def RowT(w0 w:World)(base:Nat)(v:Value)(l:List TQ):Prop:=∃rows,GrowD w base 64 5 v rows∧TRw w0 w rows l
section
variable {w0 w w':World}{base:Nat}{v:Value}{l:List TQ}{rows:List (List Value)}
def TRw.k32(h:TRw w0 w rows l)(n:K32 w w'):TRw w0 w' rows l:=⟨h.1,fun i t o=>by
 obtain⟨r,a,p,e,s,c,q,f,d,g,j,k,m⟩:=h.2 i t o;exact⟨r,a,p,e,s,c,q,f,d,g,j,k.k32 n,m⟩⟩
def RowT.be(h:RowT w0 w base v l)(a:Below w.1.size w w'):RowT w0 w' base v l:=by
 obtain⟨rows,c,d⟩:=h;exact⟨rows,c.be a,d.k32 (K32.be a)⟩
def RowT.kept(h:RowT w0 w base v l)(d:K32 w w')(e:∀g,v.ownBlock=some g->w'.heap[g]? =w.heap[g]?):RowT w0 w' base v l:=by
 obtain⟨rows,a,c⟩:=h;exact⟨rows,a.kept e,c.k32 d⟩
def RowT.lt(h:RowT w0 w base v l):∀g,v.ownBlock=some g->base<=g∧g<w.1.size:=by
 obtain⟨rows,a,c⟩:=h;exact a.lt
def RowT.nil(w0 w:World)(base:Nat):RowT w0 w base (.slice none 0 0) []:=⟨[],GrowD.nil,rfl,fun i p h=>by simp at h⟩
def RowT.form(h:RowT w0 w base v l):∃A c,v= .slice A l.length c∧l.length<=c:=by
 obtain⟨rows,d,f⟩:=h;obtain⟨A,c,e,a⟩:=d.form;rw[f.1] at e a;exact⟨A,c,e,a⟩
def RowT.at_(h:RowT w0 w base (.slice A n c) l){t:TQ}(hi:l[i]? =some t):
  ∃b q d o j r f p k g m,A=some ⟨b,0,none⟩∧base<=b∧b<w.1.size∧(w.cell? ⟨b,i*5,none⟩=some (.bool q)∧w.cell? ⟨b,i*5+1,none⟩=some (.slice d o j)∧w.cell? ⟨b,i*5+2,none⟩=some (.bool r)∧w.cell? ⟨b,i*5+3,none⟩=some (.slice f p k)∧w.cell? ⟨b,i*5+4,none⟩=some (.slice g t.2.length m))∧NQ w (.agg #[.bool q,.slice d o j,.bool r,.slice f p k]) t.1∧IntsAt w0 (.slice g t.2.length m) t.2:=by
 obtain⟨rows,s,y⟩:=h;obtain⟨q,d,o,j,r,f,p,k,g,m,e,D,E⟩:=y.2 i t hi;have hn:n=rows.length:=by
  obtain⟨F,G,u, -⟩:=s.form;injection u
 subst hn;obtain⟨b,x,z,C,a⟩:=s.at_ e;exact⟨b,q,d,o,j,r,f,p,k,g,m,x,z,C,⟨a 0 _ rfl,a 1 _ rfl,a 2 _ rfl,a 3 _ rfl,a 4 _ rfl⟩,D,E⟩
def TRw.push(h:TRw w0 w rows l)(s:K32 w w'){p r:Bool}{g:Option Addr}{j:Nat}(J:NQ w (.agg #[.bool p,.slice d n j,.bool r,.slice f o k]) q)(K:IntsAt w0 (.slice g e.length m) e):
  TRw w0 w' (rows++[[.bool p,.slice d n j,.bool r,.slice f o k,.slice g e.length m]]) (l++[(q,e)]):=by
 refine⟨by rw[bN,bN,h.1];rfl,fun i t a=> ?_⟩;by_cases c:i<l.length
 ·rw[gA c] at a;obtain⟨z,u,L,C,A,x,M,D,y,E,F,G,H⟩:=h.2 i t a;exact⟨z,u,L,C,A,x,M,D,y,E,by rw[gA (by rw[h.1];exact c)];exact F,G.k32 s,H⟩
 ·have I:=(List.getElem?_eq_some_iff.1 a).1;rw[bN,iJ] at I;have c:i=l.length:=by omega
  subst c;rw[fK aE,azV] at a;injection a with a;subst a;exact⟨p,d,n,j,r,f,o,k,g,m,by rw[fK (by rw[h.1];exact aE),h.1,azV];rfl,J.k32 s,K⟩
end
def ez9:(Tryz.prog.info? 64).map (fun i=>(i.zero,i.size,i.bytes))=some (some (.agg #[.bool false,.slice none 0 0,.bool false,.slice none 0 0,.slice none 0 0]),5,88):=by kernel_rfl
def ezA(n:Nat):∀y∈Builtin.zeroCells (Value.agg #[.bool false,.slice none 0 0,.bool false,.slice none 0 0,.slice none 0 0]).cells n,NoInt y:=fun y c=>by
 unfold Builtin.zeroCells at c;obtain⟨j,_,rfl⟩:=Array.mem_map.1 c;have a:(Value.agg #[.bool false,.slice none 0 0,.bool false,.slice none 0 0,.slice none 0 0]).cells= #[Value.bool false,.slice none 0 0,.bool false,.slice none 0 0,.slice none 0 0]:=rfl;rw[a];have a:(#[Value.bool false,.slice none 0 0,.bool false,.slice none 0 0,.slice none 0 0]:Array Value).size=5:=rfl;rw[a];rcases(show j%5=0∨j%5=1∨j%5=2∨j%5=3∨j%5=4 by omega) with h|h|h|h|h<;>rw[h]
 ·exact NoInt.bool _
 ·exact NoInt.slice _ _ _
 ·exact NoInt.bool _
 ·exact NoInt.slice _ _ _
 ·exact NoInt.slice _ _ _
def ezB(m n:Bool)(c d e:Option Addr)(i f j g k h:Nat):∀u∈([.bool m,.slice c i f,.bool n,.slice d j g,.slice e k h]:List Value),NoInt u∧u.oneCell'=true:=fun u a=>by
 simp only[List.mem_cons,List.not_mem_nil,or_false] at a;rcases a with rfl|rfl|rfl|rfl|rfl
 ·exact⟨NoInt.bool _,rfl⟩
 ·exact⟨NoInt.slice _ _ _,rfl⟩
 ·exact⟨NoInt.bool _,rfl⟩
 ·exact⟨NoInt.slice _ _ _,rfl⟩
 ·exact⟨NoInt.slice _ _ _,rfl⟩
def gV(ts:List Te):List TQ:=ts.map (fun t=>((cG t.1).getD 0,t.2))
def dxU:cG [48]=some 0:=by decide
def dxV:cW 0=[48]:=tL dxU
def dxW(h:a.getLast?=some t):(aU a).getLast?=some ((cG t).getD 0):=by
 unfold aU;rw[List.getLast?_map,h];rfl
def VR(h:¬a.length<=65):vl a=false:=by unfold vl;rw[jA];exact fun b=>h b.1
def dzX(h:a.getLast?=some [48]):vl a=false:=by
 unfold vl;rw[jA,dxW h,dxU];exact fun b=>b.2.2 rfl
def dzY{b:List (List UInt8)}(d:b.length<=65)(h:b.getLast?=some t)(g:t≠[48]):vl b=b.all rd:=by
 unfold vl;rw[bxH,iQ,dxW h];refine⟨fun a=>a.2.1,fun a=>⟨d,a,fun e=>g ?_⟩⟩;injection e with e;have f:rd t=true:=List.all_eq_true.1 a t (List.mem_of_getLast? h);obtain⟨q,c⟩:=Option.isSome_iff_exists.1 f;rw[c] at e;have e:q=0:=e;rw[<-tL c,e,dxV]
def dzZ:vl []=true:=by decide
def VS(a:List (List UInt8)):(aU a).length=a.length:=cH _
def ezN(w:World)(a:List (List UInt8))(e:Ending)(w':World):Prop:=
 ∃b,e= .returned (.tuple #[b,.bool (vl a)])∧(vl a=true->∃g,b= .slice (some ⟨g,0,none⟩) a.length a.length∧w.1.size<=g∧OwnR w' g (aU a))∧Below w.1.size w w'
def TT(a:List (List UInt8))(v:Value)(w:World)(x:Glob w)(hv:StrsAt w v a)(r:a.length<=1073741824)(y:a.length<=65->∀l∈a,l.length<=1073741824):
  Calls prog 45 #[v] w (ezN w a):=by
 obtain⟨A,c,rfl,H⟩:=hv.form;go_enter func45,ntmps45;go_wp2_with fail;refine(VA a.length c A _ r).mono ?_;rintro E B ⟨rfl,rfl⟩;by_cases e:a.length<=65
 ·have f:decide (a.length<=65)=true:=decide_eq_true e;rw[f];clear f;have q:=SZ a (.slice A a.length c) B x hv r (y e);by_cases i:a.length=0
  ·have hn:a=[]:=bX i;have d:Hid (vl a=a.all rd):=by unfold Hid;rw[hn,dzZ];rfl
   have u:¬0<a.length:=by omega
   clear hn i;go_wp2_with fail;refine q.mono ?_;rintro s C ⟨z,rfl,n,o⟩;go_wp2;go_ret2;unfold ezN;rw[d.out];exact⟨_,rfl,n,o⟩
  ·obtain⟨m,p⟩:∃m,a.length=m+1:=⟨a.length-1,by omega⟩;have u:0<a.length:=by omega
   have D:(a.length:Int)-1=(m:Int):=by omega
   have J:(0:Int)<=(m:Int):=by omega
   have K:(m:Int)<(a.length:Int):=by omega
   obtain⟨t,k⟩:∃t,a[m]? =some t:=⟨_,aR (by omega)⟩;obtain⟨b,L,rfl,G,F⟩:=hv.at_ k;have j:a.getLast?=some t:=by rw[byO,p];exact k
   by_cases g:t=[48]
   ·have d:Hid (vl a=false):=dzX (by rw[j,g]);subst g;clear q j k p i;go_wp2;go_ret2;unfold ezN;rw[d.out];exact⟨_,rfl,(fun h=>by cases h),aG _ _⟩
   ·have d:Hid (vl a=a.all rd):=dzY e j g;have I:(t==[48])=false:=beq_eq_false_iff_ne.2 g;clear j k p i g;go_wp2_with fail;refine q.mono ?_;rintro s C ⟨z,rfl,n,o⟩;go_wp2;go_ret2;unfold ezN;rw[d.out];exact⟨_,rfl,n,o⟩
 ·have f:decide (a.length<=65)=false:=decide_eq_false e;have d:Hid (vl a=false):=VR e;rw[f];clear f;go_wp2;go_ret2;unfold ezN;rw[d.out];exact⟨_,rfl,(fun h=>by cases h),aG _ _⟩
def dq0(a:List (List UInt8))(v:Value)(w:World)(b:Glob w)(hv:StrsAt w v a)(f:a.length<=1073741824)(g:a.length<=65->∀l∈a,l.length<=1073741824):
  Calls prog 24 #[v] w fun e w'=>e= .returned (.bool (vl a))∧Below w.1.size w w':=by
 obtain⟨A,c,rfl,i⟩:=hv.form;go_enter func24,ntmps24;go_wp2_with fail;refine(TT a _ _ b hv f g).mono ?_;rintro h k ⟨j,rfl, -,d⟩;go_wp2;go_ret;exact⟨rfl,d⟩
abbrev R4(w:World)(b o:Nat)(c d e f:Value):Prop:=w.cell? ⟨b,o,none⟩=some c∧w.cell? ⟨b,o+1,none⟩=some d∧w.cell? ⟨b,o+2,none⟩=some e∧w.cell? ⟨b,o+3,none⟩=some f
def QRow(w:World)(rows:List (List Value))(qs:List Rat):Prop:=∀(i:Nat) (q:Rat),qs[i]? =some q->∃s A l c f d e c',rows[i]? =some [Value.bool s,Value.slice A l c,Value.bool f,Value.slice d e c']∧NQ w (.agg #[.bool s,.slice A l c,.bool f,.slice d e c']) q
def QsAt(w:World)(v:Value)(qs:List Rat):Prop:=∃A c,v= .slice A qs.length c∧qs.length<=c∧(A=none∧qs=[]∨∃b rows,A=some ⟨b,0,none⟩∧Rw w b 4 rows 62∧qs.length<=rows.length∧QRow w rows qs)
def OwnQ(w:World)(b:Nat)(qs:List Rat):Prop:=∃rows,Rw w b 4 rows 62∧qs.length<=rows.length∧QRow w rows qs
def fx0(g:Nat)(w W:World):Prop:=KM w W∧kR g w W
def KM.put{c:Value}(f:w.cell? p=some c)(e:NoInt c)(v:Value):KM w (w.setCell p v):=
 ⟨by simp,fun q k x d=>by
  rw[World.cell?_setCell_other _ _ _ _ ?_,d];rintro rfl;rw[f] at d;injection d with d;exact absurd d (e _ _)⟩
def sJ:(Tryz.prog.info? 62).map (fun i=>(i.zero,i.size,i.bytes))=some (some (.agg #[.bool false,.slice none 0 0,.bool false,.slice none 0 0]),4,64):=by kernel_rfl
section
variable {w w':World}{b:Nat}{qs:List Rat}{v:Value}{rows:List (List Value)}
def QRow.ke(h:QRow w rows qs)(g:KM w w'):QRow w' rows qs:=fun i q hi=>by
 obtain⟨s,A,l,c,k,d,j,c',e,f⟩:=h i q hi;exact⟨s,A,l,c,k,d,j,c',e,f.ke g⟩
def QRow.take(h:QRow w rows qs)(m:Nat):QRow w rows (qs.take m):=fun i q hi=>by
 rw[fC] at hi;split at hi
 ·exact h i q hi
 ·cases hi
def QsAt.be(h:QsAt w v qs)(d:Below w.1.size w w'):QsAt w' v qs:=by
 obtain⟨A,c,hv,f,h⟩:=h;refine⟨A,c,hv,f,?_⟩;rcases h with h|⟨b,rows,e,j,i,g⟩
 ·exact .inl h
 ·exact .inr ⟨b,rows,e,j.be d,i,g.ke (KM.be d)⟩
def QsAt.drew(h:QsAt w v qs):QsAt w.drew v qs:=h.be (aG _ _).drew
def QsAt.step(h:QsAt w (.slice A l c) qs)(f:fx0 g w w')(p:∀b,A=some ⟨b,0,none⟩->b≠g):QsAt w' (.slice A l c) qs:=by
 obtain⟨i,j,e,k,h⟩:=h;refine⟨i,j,e,k,?_⟩;simp only[Value.slice.injEq] at e;obtain⟨rfl,rfl,rfl⟩:=e;rcases h with h|⟨b,rows,e,d,n,m⟩
 ·exact .inl h
 ·exact .inr ⟨b,rows,e,⟨(f.2.2.1 b (p b e)).trans d.1,d.2⟩,n,m.ke f.1⟩
def QsAt.nil(w:World):QsAt w (.slice none 0 0) []:=⟨none,0,rfl,aE,.inl ⟨rfl,rfl⟩⟩
def QsAt.form(h:QsAt w v qs):∃A c,v= .slice A qs.length c∧qs.length<=c:=by
 obtain⟨A,c,hv,d,_⟩:=h;exact⟨A,c,hv,d⟩
def QsAt.cut(h:QsAt w (.slice A l c) qs)(m:Nat)(g:m<=qs.length):QsAt w (.slice A m c) (qs.take m):=by
 obtain⟨j,k,e,n,h⟩:=h;simp only[Value.slice.injEq] at e;obtain⟨rfl,rfl,rfl⟩:=e;refine⟨A,c,by rw[bK,y8 g],by rw[bK];omega,?_⟩;rcases h with ⟨h,d⟩|⟨b,rows,e,i,p,f⟩
 ·exact .inl ⟨h,by rw[d];simp⟩
 ·exact .inr ⟨b,rows,e,i,by rw[bK];omega,f.take m⟩
def OwnQ.lt(h:OwnQ w b qs):b<w.1.size:=by
 obtain⟨rows,c,_⟩:=h;exact c.lt
def OwnQ.be(h:OwnQ w b qs)(c:Below w.1.size w w'):OwnQ w' b qs:=by
 obtain⟨rows,f,e,d⟩:=h;exact⟨rows,f.be c,e,d.ke (KM.be c)⟩
def OwnQ.drew(h:OwnQ w b qs):OwnQ w.drew b qs:=h.be (aG _ _).drew
def OwnQ.step(h:OwnQ w b qs)(d:fx0 g w w')(i:b≠g):OwnQ w' b qs:=by
 obtain⟨rows,c,f,e⟩:=h;exact⟨rows,⟨(d.2.2.1 b i).trans c.1,c.2⟩,f,e.ke d.1⟩
def OwnQ.nums(h:OwnQ w b qs)(c:Nat)(d:qs.length<=c):QsAt w (.slice (some ⟨b,0,none⟩) qs.length c) qs:=by
 obtain⟨rows,g,f,e⟩:=h;exact⟨_,c,rfl,d,.inr ⟨b,rows,rfl,g,f,e⟩⟩
def OwnQ.free(h:OwnQ w b qs)(j:Nat):w.frozen? ⟨b,j,none⟩=false:=by
 obtain⟨rows,c,_⟩:=h;exact c.free j
def OwnQ.at_(h:OwnQ w b qs)(hi:qs[i]? =some q):
  ∃s B m d k c j e,R4 w b (i*4) (.bool s) (.slice B m d) (.bool k) (.slice c j e)∧NQ w (.agg #[.bool s,.slice B m d,.bool k,.slice c j e]) q:=by
 obtain⟨rows,g,p,n⟩:=h;obtain⟨s,B,m,d,k,c,j,e,f,l⟩:=n i q hi;exact⟨s,B,m,d,k,c,j,e,⟨g.cell 0 f rfl,g.cell 1 f rfl,g.cell 2 f rfl,g.cell 3 f rfl⟩,l⟩
def QsAt.at_(h:QsAt w (.slice A l c) qs)(hi:qs[i]? =some q):
  ∃b s B m d p g n j,A=some ⟨b,0,none⟩∧b<w.1.size∧R4 w b (i*4) (.bool s) (.slice B m d) (.bool p) (.slice g n j)∧NQ w (.agg #[.bool s,.slice B m d,.bool p,.slice g n j]) q:=by
 obtain⟨x,y,e,z,h⟩:=h;simp only[Value.slice.injEq] at e;obtain⟨rfl,rfl,rfl⟩:=e;rcases h with ⟨-,h⟩|⟨b,rows,e,f, -,t⟩
 ·rw[h] at hi;simp at hi
 ·obtain⟨s,B,m,d,p,g,n,j,k,r⟩:=t i q hi;exact⟨b,s,B,m,d,p,g,n,j,e,f.lt,⟨f.cell 0 k rfl,f.cell 1 k rfl,f.cell 2 k rfl,f.cell 3 k rfl⟩,r⟩
def OwnQ.stored(h:OwnQ w b qs)(hi:i<qs.length){s d:Bool}{t c':Nat}(hn:NQ w (.agg #[.bool s,.slice A l c,.bool d,.slice r t c']) q):
  let W:=(((w.setCell ⟨b,i*4,none⟩ (.bool s)).setCell ⟨b,i*4+1,none⟩ (.slice A l c)).setCell ⟨b,i*4+2,none⟩ (.bool d)).setCell ⟨b,i*4+3,none⟩ (.slice r t c')
  OwnQ W b (qs.set i q)∧fx0 b w W:=by
 obtain⟨rows,R,hl,P⟩:=h;obtain⟨s1,E,H,F,x,f,p,k,O,h2⟩:=P i qs[i] (aR hi);have D:i<rows.length:=by omega
 have S:=R.set 0 O (by omega) (.bool s);have L:(rows.set i ([Value.bool s1,.slice E H F,.bool x,.slice f p k].set 0 (.bool s)))[i]? =some [.bool s,.slice E H F,.bool x,.slice f p k]:=by rw[gP D];rfl
 have I:=S.set 1 L (by omega) (.slice A l c);rw[bxM] at I;have M:(rows.set i ([Value.bool s,.slice E H F,.bool x,.slice f p k].set 1 (.slice A l c)))[i]? =some [.bool s,.slice A l c,.bool x,.slice f p k]:=by rw[gP D];rfl
 have J:=I.set 2 M (by omega) (.bool d);rw[bxM] at J;have N:(rows.set i ([Value.bool s,.slice A l c,.bool x,.slice f p k].set 2 (.bool d)))[i]? =some [.bool s,.slice A l c,.bool d,.slice f p k]:=by rw[gP D];rfl
 have T:=J.set 3 N (by omega) (.slice r t c');rw[bxM] at T;have K:=R.cell 0 O rfl;have y:=S.cell 1 L rfl;have z:=I.cell 2 M rfl;have B:=J.cell 3 N rfl;have G:=(((KM.put K (NoInt.bool _) (.bool s)).trans (KM.put y (NoInt.slice _ _ _) (.slice A l c))).trans (KM.put z (NoInt.bool _) (.bool d))).trans (KM.put B (NoInt.slice _ _ _) (.slice r t c'));refine⟨⟨_,T,by simpa using hl,fun j m n=> ?_⟩,G,(((Keep.put K (NoInt.bool _) _).trans (Keep.put y (NoInt.slice _ _ _) _)).trans (Keep.put z (NoInt.bool _) _)).trans (Keep.put B (NoInt.slice _ _ _) _),fun g C=> ?_,by simp,rfl,rfl,rfl⟩
 ·by_cases e:i=j
  ·subst e;rw[gP hi] at n;injection n with n;subst n;exact⟨s,A,l,c,d,r,t,c',by rw[gP D];rfl,hn.ke G⟩
  ·rw[lI e] at n;obtain⟨y,z,B,U,V,X,Y,Z,k1,k2⟩:=P j m n;exact⟨y,z,B,U,V,X,Y,Z,by rw[lI e];exact k1,k2.ke G⟩
 ·rw[Below.heap_setCell _ ⟨b,i*4+3,none⟩ _ g C,Below.heap_setCell _ ⟨b,i*4+2,none⟩ _ g C,Below.heap_setCell _ ⟨b,i*4+1,none⟩ _ g C,Below.heap_setCell _ ⟨b,i*4,none⟩ _ g C]
def OwnQ.made(h:Rw w b 4 (List.replicate n [.bool false,.slice none 0 0,.bool false,.slice none 0 0]) 62):OwnQ w b (List.replicate n 0):=
 ⟨_,h,by simp,fun i m c=>⟨false,none,0,0,false,none,0,0,by
  have:=(List.getElem?_eq_some_iff.1 c).1;rw[dB] at this;rw[j6,if_pos this],by
  have:=j6 (n:=n) (a:=(0:Rat)) (i:=i);rw[c] at this;split at this
  ·injection this with this;subst this;exact NQ.zero w
  ·cases this⟩⟩
def Rw.src{t:TypeId}(i:Rw w b k rows t)(d:0<k)(hn:n<=rows.length):Src w (some ⟨b,0,none⟩) (rows.take n).flatten:=by
 have g:∀r∈rows.take n,r.length=k:=fun r h=>i.2 r (lH h);refine .inr ⟨b,0,rfl,fun j u l=> ?_⟩;have p:j<n*k:=by
  have:=(List.getElem?_eq_some_iff.1 l).1;rw[mX g,bK,y8 hn] at this;exact this
 have m:j/k<n:=by rw[Nat.div_lt_iff_lt_mul d];exact p
 obtain⟨r,c⟩:∃r,(rows.take n)[j/k]? =some r:=⟨_,aR (by rw[bK];omega)⟩;have f:=mW g c (dI j d);have e:j/k*k+j%k=j:=by rw[dN];exact iD j k
 rw[e,l] at f;rw[fC,if_pos m] at c;have:=i.cell (j%k) c f.symm;rw[e] at this;rw[bA];exact this
def EA(h:w.ownsRow k 62 4 v n rows.flatten)(I:∀r∈rows,r.length=4)(hn:rows.length=n)(y:qs.length=n)(hi:QRow w rows qs):
  QsAt w v qs∧(v= .slice none 0 0∨∃g cap,v= .slice (some ⟨g,0,none⟩) n cap∧k<=g∧OwnQ w g qs):=by
 rcases h.2 with ⟨rfl,N⟩|⟨g,cap,D,rfl,G,H,P,T,J,K⟩
 ·obtain rfl:qs=[]:=bX (by omega);exact⟨QsAt.nil w,.inl rfl⟩
 ·obtain⟨z,O,p,d⟩:=BO 4 cap D.toList (by simpa using J);have q:OwnQ w g qs:=by
   refine⟨z,⟨by unfold Bx;rw[H,p],d⟩,by omega,fun i m x=> ?_⟩;obtain⟨s,A,l,c,M,B,L,C,E,F⟩:=hi i m x;refine⟨s,A,l,c,M,B,L,C,?_,F⟩;have R:i<n:=by rw[<-y];exact(List.getElem?_eq_some_iff.1 x).1
   obtain⟨f,e⟩:∃f,z[i]? =some f:=⟨_,aR (by omega)⟩;rw[e];congr 1;have S:=d f (dG e);refine aq6 (fun j=> ?_);by_cases t:j<4
   ·rw[<-mW d e t,<-mW I E t,p,<-K,fC,if_pos (by omega)]
   ·rw[fU (by omega),fU (by simp;omega)]
  have:=q.nums cap (by omega);rw[y] at this;exact⟨this,.inr ⟨g,cap,rfl,G,q⟩⟩
end
section
variable {w:World}{ops:Array Oper}{rest:List Oper}{o:Oper}{a:Act}{Q:Exit->Act->World->Prop}
end
section
variable {a b:World}[u:Up a b]
def QsAt.up(h:QsAt a v qs):QsAt b v qs:=h.be u.out
def OwnQ.up(h:OwnQ a g qs):OwnQ b g qs:=h.be u.out
def R4.up{d e f i:Value}(h:R4 a g o d e f i)(c:g<a.1.size):R4 b g o d e f i:=
 ⟨(u.out.cell (p:=⟨g,o,none⟩) c).trans h.1,(u.out.cell (p:=⟨g,o+1,none⟩) c).trans h.2.1,(u.out.cell (p:=⟨g,o+2,none⟩) c).trans h.2.2.1,(u.out.cell (p:=⟨g,o+3,none⟩) c).trans h.2.2.2⟩
end
def yU(w:World)(v:Value):Prop:=∀g,v.ownBlock=some g->∀cur t f,w.heap[g]? =some (.cells cur t f)->∀y∈cur.toList,NoInt y
def GrowQ(w:World)(c:Nat)(v:Value)(qs:List Rat):Prop:=(∃rows,w.ownsRow c 62 4 v qs.length rows.flatten∧rows.length=qs.length∧(∀r∈rows,r.length=4)∧QRow w rows qs)∧yU w v
def GrowQ.nil(w:World):GrowQ w c (.slice none 0 0) []:=⟨⟨[],World.ownsRow_nil _ _ _ _,rfl,(fun _ h=>by cases h),(fun i q h=>by simp at h)⟩,fun g h=>by simp[Value.ownBlock] at h⟩
def GrowQ.nums(h:GrowQ w c v qs):QsAt w v qs:=by
 obtain⟨⟨rows,d,e,f,g⟩, -⟩:=h;exact(EA d f e rfl g).1
def GrowQ.be(h:GrowQ w l v qs)(k:Below w.1.size w w'):GrowQ w' l v qs:=by
 obtain⟨⟨rows,j,n,p,q⟩,s⟩:=h;have x:∀g,v.ownBlock=some g->g<w.1.size:=fun g e=>by
  rcases j.2 with ⟨rfl,_⟩|⟨i,m,d,rfl,_,c,_⟩
  ·simp[Value.ownBlock] at e
  ·simp[Value.ownBlock] at e;subst e;exact(Array.getElem?_eq_some_iff.1 c).1
 refine⟨⟨rows,⟨j.1,?_⟩,n,p,q.ke (KM.be k)⟩,fun g e d t f c=>s g e d t f ((k.block g (x g e)).symm.trans c)⟩;rcases j.2 with h|⟨i,m,d,rfl,r,c,h⟩
 ·exact .inl h
 ·exact .inr ⟨i,m,d,rfl,r,(k.block i (Array.getElem?_eq_some_iff.1 c).1).trans c,h⟩
def GrowQ.drew(h:GrowQ w c v qs):GrowQ w.drew c v qs:=h.be (aG _ _).drew
def GrowQ.up{a b:World}[u:Up a b](h:GrowQ a c v qs):GrowQ b c v qs:=h.be u.out
def VT(a:List (List UInt8))(v:Value)(w:World)(hv:StrsAt w v a)(hl:a.length<=1073741824)(ac:∀l∈a,l.length<=1073741824):
  Calls prog 50 #[v] w fun e w'=>∃Q,e= .returned (.tuple #[Q,.bool (a.all rd)])∧(a.all rd=true->∃g,Q= .slice (some ⟨g,0,none⟩) a.length a.length∧w.1.size<=g∧OwnQ w' g (aU a))∧Below w.1.size w w':=by
 obtain⟨A,c,rfl,hc⟩:=hv.form;have P:(aU a).length=a.length:=cH _;have s:=aB P;clear P;go_enter func50,ntmps50;go_wp2_with (at_make;refine jT rfl rfl 62 _ 4 64 underlying56 sJ rfl (by decide) a.length rfl rfl rfl rfl (by omega) (by omega) ?_;intro w1 af M D);have y:=OwnQ.made M;clear M af;go_loopg [5] a.length (fun k i wr=>∃j,Hid (j+k=a.length)∧i= .int .i64 j∧OwnQ wr w.1.size ((aU a).take j++List.replicate k 0)∧Hid ((a.take j).all rd=true)∧Below w.1.size w wr)
 case atStart=>exact⟨0,by unfold Hid;omega,rfl,by simpa using y,by unfold Hid;simp,D⟩
 case round=>
  clear y D;obtain⟨j,f,rfl,R,o,d⟩:=hrel;generalize wr=wx at *;have aj:(0:Int)<=(j:Int):=by omega
  cases gk with
  |zero=>
   have I:j=a.length:=f.out;have C:a.all rd=true:=by
    have:=o.out;rw[I,aq9] at this;exact this
   subst I;rw[aq8,fH,cZ (by rw[s.out];exact aE)] at R;have U:=aB C;clear C o;go_wp2;go_ret2;rw[U.out];exact⟨_,rfl,fun _=>⟨w.1.size,rfl,aE,R⟩,d⟩
  |succ k=>
   obtain⟨t,m⟩:∃t,a[j]? =some t:=⟨_,aR (by have:=f.out;omega)⟩;obtain⟨b,am,rfl,ai,g0⟩:=(hv.be d).at_ m;have ae:=ac t (dG m);have ak:(j:Int)<(a.length:Int):=by have:=f.out;omega
   have O:(aU a)[j]? =some ((cG t).getD 0):=by unfold aU;rw[iK,m];rfl
   have F:=rI (ys:=aU a) (z:=(0:Rat)) (j:=j) (k:=k+1) (by rw[s.out];exact f.out);have G:=rH (z:=(0:Rat)) (k:=k) O;have H:j<((aU a).take j++List.replicate (k+1) 0).length:=by rw[F,s.out];have:=f.out;omega
   have N:(a.take (j+1)).all rd=rd t:=by rw[Q9,m,aqO,byJ,o.out];simp
   have J:rd t=false->a.all rd=false:=fun h=>by
    rw[List.all_eq_false];exact⟨t,dG m,by rw[h];simp⟩
   have V:=aB G;have q:=aB N;have p:=aB J;clear O F G N J m;go_wp2_with fail;refine(CE t _ ae).mono ?_;rintro e2 w2 ⟨v2,q2,rfl,n,x,E⟩;obtain⟨s2,S,k2,Z,s3,T,k3,c3,rfl⟩:=n.form;replace R:=R.be E;replace d:=aC d E;cases hrd:rd t with
   |false=>
    have W:=aB (p.out hrd);clear p q hrd x;go_wp2;go_ret2;rw[W.out];exact⟨_,rfl,(fun h=>by cases h),d.alloc d.size _⟩
   |true=>
    have X:Hid (q2=(cG t).getD 0):=by
     obtain⟨r,L⟩:=Option.isSome_iff_exists.1 hrd;unfold Hid;rw[L];exact x r L
    rw[hrd] at q;clear p hrd x;obtain⟨W3,B,u,Y⟩:=bI w2 [.bool s2,.slice S k2 Z,.bool s3,.slice T k3 c3] 62;replace R:=R.be u;replace n:=n.be u;replace d:=aC d u;obtain⟨s',B',l',d',an,ag,al,ah,q0, -⟩:=R.at_ (aR H);have f0:=R.free;have cX:=Y.k4;rw[X.out] at n;generalize (cG t).getD 0=q3 at *;go_wp2_with fail;(try rw[B]);clear B;go_wp2_with fail;obtain⟨K,ad⟩:=R.stored H n;rw[V.out] at K;have ab:=jD d ad.2 aE;go_roundg k
    case rel=>exact⟨j+1,by have:=f.out;unfold Hid;omega,by go_num,K,q,ab⟩
    case measure=>omega
def cqX(a:List Rat)(v:Value)(w:World)(hv:QsAt w v a)(K:Nat)(H:∀q∈a,RL K q)(I:K<=549755813888)(hl:a.length<=1073741824):
  Calls prog 23 #[v] w fun e w'=>∃F,e= .returned F∧StrsAt w' F (a.map cW)∧Below w.1.size w w':=by
 obtain⟨A,c,rfl,Y⟩:=hv.form;have E:(a.map cW).length=a.length:=cH _;have h:=aB E;clear E;go_enter func23,ntmps23;go_wp2_with (at_make;refine jT rfl rfl 9 _ 1 16 underlying25 czR rfl (by decide) a.length rfl rfl rfl rfl (by omega) (by omega) ?_;intro w1 P y o);have n:=OwnS.made y;clear y P;go_loopg [4] a.length (fun k i wr=>∃j,Hid (j+k=a.length)∧i= .int .i64 j∧OwnS wr w.1.size ((a.map cW).take j++List.replicate k [])∧Below w.1.size w wr)
 case atStart=>exact⟨0,by unfold Hid;omega,rfl,by simpa using n,o⟩
 case round=>
  clear n o;obtain⟨j,f,rfl,R,g⟩:=hrel;generalize wr=wx at *;have Z:(0:Int)<=(j:Int):=by omega
  cases gk with
  |zero=>
   have N:j=a.length:=f.out;subst N;rw[aq8,fH,cZ (by rw[h.out];exact aE)] at R;have C:=R.strs a.length (by rw[h.out];exact aE);rw[h.out] at C;go_wp2;go_ret;exact⟨_,rfl,C,g⟩
  |succ k=>
   obtain⟨q,l⟩:∃q,a[j]? =some q:=⟨_,aR (by have:=f.out;omega)⟩;obtain⟨b,s,B,m,d,s',S,m',T,rfl,X,W,M⟩:=(hv.be g).at_ l;have J:=H q (dG l);have ab:(j:Int)<(a.length:Int):=by have:=f.out;omega
   have D:(a.map cW)[j]? =some (cW q):=by rw[iK,l];rfl
   have r:=rI (ys:=a.map cW) (z:=([]:List UInt8)) (j:=j) (k:=k+1) (by rw[h.out];exact f.out);have t:=rH (z:=([]:List UInt8)) (k:=k) D;have u:j<((a.map cW).take j++List.replicate (k+1) []).length:=by rw[r,h.out];have:=f.out;omega
   have G:=aB t;clear D r t l;go_wp2_with fail;refine(CF q _ _ M K J I).mono ?_;rintro U w2 ⟨rfl,p⟩;replace R:=R.be p;replace g:=aC g p;have q0:=R.at_ (aR u);have V:=R.free j;generalize cW q=Q at *;go_wp2_with fail;obtain⟨x,O⟩:=R.stored u Q;rw[G.out] at x;have L:=jD g O aE;go_roundg k
   case rel=>exact⟨j+1,by have:=f.out;unfold Hid;omega,by go_num,x,L⟩
   case measure=>omega
def eyY(w:World)(L:List (List UInt8))(c:Int)(e:Ending)(w':World):Prop:=∃a,e= .returned (.tuple #[a,.int .i64 c])∧StrsAt w' a L∧Below w.1.size w w'
def oP(a:List (List UInt8)):List Rat:=if vl a=true then aU a else []
def qP(w:World)(a:List (List UInt8))(e:Ending)(w':World):Prop:=∃b,e= .returned (.tuple #[b,.bool (vl a)])∧QsAt w' b (oP a)∧Below w.1.size w w'
def tW(h:vl a=true):oP a=aU a:=if_pos h
def xO(h:vl a=false):oP a=[]:=if_neg (by rw[h];simp)
def JG(q:Rat):(q.num.sign==0)=decide (q=0):=by
 rw[bxH,iQ,beq_iff_eq,Int.sign_eq_zero_iff_zero];exact⟨fun h=>Rat.num_eq_zero.1 h,fun h=>by rw[h];rfl⟩
def VQ(a:List (List UInt8))(v:Value)(w:World)(hv:StrsAt w v a)(C:a.length<=1073741824)(D:∀l∈a,l.length<=1073741824)(y:∀q∈aU a,RL 1099511627776 q):
  Calls prog 26 #[v] w (qP w a):=by
 obtain⟨A,c,rfl,N⟩:=hv.form;go_enter func26,ntmps26;go_wp2_with fail;refine(VT a _ _ hv C D).mono ?_;rintro K G ⟨V,rfl,o,e⟩;cases ha:a.all rd with
 |false=>
  have b:Hid (vl a=false):=by unfold Hid vl;rw[jA,ha];simp
  clear ha o;go_wp2;go_ret2;unfold qP;rw[b.out,xO b.out];exact⟨_,rfl,QsAt.nil _,e⟩
 |true=>
  obtain⟨g,rfl,O,R⟩:=o ha;have h:=VS a;have f:=R.nums a.length (by omega);rw[h] at f;clear o;by_cases p:a.length<=65
  ·have E:¬(65:Int)<(a.length:Int):=by omega
   by_cases i:a.length=0
   ·have b:Hid (vl a=true):=by
     have:a=[]:=bX i;unfold Hid;rw[this];rfl
    have F:decide (0<a.length)=false:=by rw[i];rfl
    clear ha i h R;go_wp2;go_ret2;unfold qP;rw[b.out,tW b.out];exact⟨_,rfl,f,e⟩
   ·obtain⟨m,j⟩:∃m,a.length=m+1:=⟨a.length-1,by omega⟩;have F:decide (0<a.length)=true:=by rw[j];simp
    have Q:(a.length:Int)-1=(m:Int):=by omega
    have S:(m:Int)<(a.length:Int):=by omega
    obtain⟨q,n⟩:∃q,(aU a)[m]? =some q:=⟨_,aR (by omega)⟩;obtain⟨s,B,k,d,T,H,P,J,M,z⟩:=R.at_ n;have t:(aU a).getLast?=some q:=by rw[byO,h,j];exact n
    have u:=oC q _ G z (y q (dG n)).1;have x:=JG q;have b:Hid (vl a= !decide (q=0)):=by
     unfold Hid vl;rw[bxH,iQ,ha,t];simp[p]
    have I:=aB j;generalize q.num.sign=U at *;clear ha i h R n t j;go_wp2_with fail;refine u.mono ?_;rintro L W ⟨rfl,r⟩;clear u;replace e:=aC e r;replace f:=f.be r;cases hd:decide (q=0) with
    |true=>
     rw[hd] at x b;clear hd;go_wp2;go_ret2;unfold qP;rw[b.out,xO b.out];exact⟨_,rfl,QsAt.nil _,e⟩
    |false=>
     rw[hd] at x b;clear hd;go_wp2;go_ret2;unfold qP;rw[tW b.out,b.out];exact⟨_,rfl,f,e⟩
  ·have E:(65:Int)<(a.length:Int):=by omega
   have b:Hid (vl a=false):=VR p;clear ha p h R;go_wp2;go_ret2;unfold qP;rw[b.out,xO b.out];exact⟨_,rfl,QsAt.nil _,e⟩
def ez8(a w:World)(vars:Int)(l:List TQ)(b:Bool)(e:Ending)(w':World):Prop:=∃x A n c,e= .returned (.tuple #[.agg #[.int .i64 x,.slice A n c],.bool b])∧(b=true->x=vars∧RowT a w' w.1.size (.slice A n c) l)∧Below w.1.size w w'
def Bx.st2{B:Nat}{t:TypeId}{x:Int}(h:Bx W b [.int .i64 x,u] t)(l:Below B w W)(i:B<=b)(hn:∀k z,u≠ .int k z)(a c:Value):
  ∃d,(W.setCell ⟨b,0,none⟩ a).setCell ⟨b,1,none⟩ c=d∧Bx d b [a,c] t∧Below B w d∧K32 W d∧(∀g,g≠b->d.heap[g]? =W.heap[g]?):=by
 have f:=h.set 0 a;have m:K32 W (W.setCell ⟨b,0,none⟩ a):=K32.put (h.cell 0 rfl) (fun x e=>by cases e) a;have n:K32 (W.setCell ⟨b,0,none⟩ a) ((W.setCell ⟨b,0,none⟩ a).setCell ⟨b,1,none⟩ c):=K32.put (f.cell 1 rfl) (fun x e=>hn _ _ e) c;exact⟨_,rfl,f.set 1 c,(l.setCell (p:=⟨b,0,none⟩) i a).setCell (p:=⟨b,1,none⟩) i c,m.trans n,fun g j=>(Below.heap_setCell _ ⟨b,1,none⟩ c g j).trans (Below.heap_setCell _ ⟨b,0,none⟩ a g j)⟩
def fzQ(vars:Int)(ts:List Te)(v:Value)(w0 w:World)(hv:TesAt w0 v ts)(aj:Below w0.1.size w0 w)(ok:PolyOk vars ts)(hl:ts.length<=4096):
  Calls prog 42 #[.agg #[.int .i64 vars,v]] w (ez8 w0 w vars (gV ts) (decide (0<=vars∧vars<=6)&&I5 vars ts)):=by
 obtain⟨A,c,rfl,hc⟩:=hv.form;have OK:=aB ok;obtain⟨c3,c4⟩:=ok.v;clear ok;obtain⟨D0,au⟩:∃D0,decide (0<=vars∧vars<=6)=D0:=⟨_,rfl⟩;obtain⟨V,hV⟩:∃V,I5 vars ts=V:=⟨_,rfl⟩;rw[au,hV];have bc:=aB au;have HV:=aB hV;clear au hV;obtain⟨W,eW,l,X,R⟩:=DA w [.int .i64 vars,.slice A ts.length c] 24 [.int .i64 0,.slice none 0 0] 53;obtain⟨W2,bm,ab,O⟩:=bI W [.int .i64 vars,.slice none 0 0] 53;have cv:w.1.size+1<W.1.size:=R.lt;have cM:=aa X.g2 R.g2;replace X:=X.be ab;replace R:=R.be ab;replace l:=aC l ab;have cN:=aa X.g2 (aa R.g2 O.g2);have bj:=aB bm;clear bm;by_cases h0:vars<0∨6<vars
 ·have hd:decide (0<=vars∧vars<=6)=false:=decide_eq_false (by omega);obtain rfl:false=D0:=hd.symm.trans bc.out;clear hd;go_enter func42,ntmps42;go_upto_region 2 with fail;(try rw[eW]);rw[bj.out];clear eW;by_cases I:vars<0
  ·clear h0;go_wp2_with fail;obtain⟨Z,F,B,G, -, -⟩:=R.st2 l (Nat.le_succ _) (fun k z e=>by cases e) (.int .i64 0) (.slice none 0 0);rw[F];exact aM (v:= .tuple #[.agg #[.int .i64 0,.slice none 0 0],.bool false]) (by simp[results,results42,go_sem,B.k2]) rfl ⟨_,_,_,_,rfl,(fun e=>Bool.noConfusion (show false=true from e)),G⟩
  ·have h2:6<vars:=by omega
   clear h0;go_wp2_with fail;obtain⟨Z,F,B,G, -, -⟩:=R.st2 l (Nat.le_succ _) (fun k z e=>by cases e) (.int .i64 0) (.slice none 0 0);rw[F];exact aM (v:= .tuple #[.agg #[.int .i64 0,.slice none 0 0],.bool false]) (by simp[results,results42,go_sem,B.k2]) rfl ⟨_,_,_,_,rfl,(fun e=>Bool.noConfusion (show false=true from e)),G⟩
 have hd:decide (0<=vars∧vars<=6)=true:=decide_eq_true (by omega);obtain rfl:true=D0:=hd.symm.trans bc.out;have v0:0<=vars:=by omega
 have v6:vars<=6:=by omega
 have v7:decide (vars<0)=false:=decide_eq_false (by omega);have v8:decide (6<vars)=false:=decide_eq_false (by omega);clear hd h0;go_enter func42,ntmps42;go_upto_region 2 with fail;(try rw[eW]);rw[bj.out];clear eW;go_wp2_with fail;go_loopg [5] ts.length (fun k vi wr=>∃(j:Nat) (At:Option Addr) (nt ct:Nat),Hid (j+k=ts.length)∧vi= .int .i64 j∧RowT w0 wr (W.1.size+1) (.slice At nt ct) (gV (ts.take j))∧Hid (∀i<j,pA vars ts i=true)∧Bx wr w.1.size [.int .i64 vars,.slice A ts.length c] 24∧Bx wr (w.1.size+1) [.int .i64 0,.slice none 0 0] 53∧Bx wr W.1.size [.int .i64 vars,.slice At nt ct] 53∧Below w.1.size w wr)
 case atStart=>exact⟨0,none,0,0,by unfold Hid;omega,rfl,RowT.nil _ _ _,fun i hi=>by omega,X,R,O,l⟩
 case round=>
  clear X R O l cM cN ab;obtain⟨j,At,nt,ct,HJ,rfl,L,HI,X,R,O,l⟩:=hrel;generalize wr=wy at *;have cM:=aa X.g2 (aa R.g2 O.g2);have cs:(0:Int)<=(j:Int):=by omega
  cases gk with
  |zero=>
   have hj:j=ts.length:=HJ.out;have ci:V=true:=by
    rw[<-HV.out,ezG];intro i hi;exact HI.out i (by omega)
   have br:RowT w0 wy (W.1.size+1) (.slice At nt ct) (gV ts):=by rw[hj,aq9] at L;exact L
   subst ci hj;clear L;go_wp2_with fail;obtain⟨Z,F,B,G,cb,ca⟩:=R.st2 l (Nat.le_succ _) (fun k z e=>by cases e) (.int .i64 vars) (.slice At nt ct);rw[F];have ce:RowT w0 Z w.1.size (.slice At nt ct) (gV ts):=by
    have cc:=br.lt;obtain⟨ba,r1,r2⟩:=br.kept cb (fun g e=>ca g (by have:=(cc g e).1;omega));exact⟨ba,r1.lower (by omega),r2⟩
   exact aM (v:= .tuple #[.agg #[.int .i64 vars,.slice At nt ct],.bool true]) (by simp[results,results42,go_sem,B.k2]) rfl ⟨_,_,_,_,rfl,fun _=>⟨rfl,ce⟩,G⟩
  |succ k=>
   have ah:j<ts.length:=by have:=HJ.out;omega
   have q1:(j:Int)<(ts.length:Int):=by omega
   obtain⟨t,ht⟩:∃t,ts[j]? =some t:=⟨_,aR ah⟩;have a4:=dG ht;obtain⟨b,y,u,rfl,a7,c1,c2,a5⟩:=hv.at_ ht;obtain⟨Au,cu,rfl,cq⟩:=a5.form;have hu:=a5.be aj;have lb:=aZ a7 aj.size;replace c1:=(aj.cell (p:=⟨b,y+j*2,none⟩) a7).trans c1;replace c2:=(aj.cell (p:=⟨b,y+j*2+1,none⟩) a7).trans c2;have bv:=l.cell (p:=⟨b,y+j*2,none⟩) lb;have bw:=l.cell (p:=⟨b,y+j*2+1,none⟩) lb;have d1:=bv.trans c1;have C:=bw.trans c2;have a3:=fun W=>CE t.1 W (OK.out.txt t a4);unfold JH at a3;have P:=aB (And.intro ht a4);clear ht a4 bv bw;go_wp2_with fail;refine(a3 _).mono ?_;rintro e1 w1 ⟨v1,q,rfl,I,hq,am⟩;obtain⟨s1,A1,k1,af,s2,A2,k2,ag,rfl⟩:=I.form;obtain⟨H,e2,ab,T⟩:=bI w1 [.bool s1,.slice A1 k1 af,.bool s2,.slice A2 k2 ag] 62;have hA:=aC am ab;have bs:=L.lt;have cx:W.1.size<wy.1.size:=O.lt;have cg:=am.size;replace X:=X.be hA;replace R:=R.be hA;replace O:=O.be hA;replace L:=L.be hA;replace I:=I.be ab;replace d1:=(hA.cell (p:=⟨b,y+j*2,none⟩) (aZ lb l.size)).trans d1;replace C:=(hA.cell (p:=⟨b,y+j*2+1,none⟩) (aZ lb l.size)).trans C;replace l:=aC l hA;have cw:W.1.size<H.1.size:=O.lt;have a8:b<H.1.size:=aZ lb l.size;clear a3 am ab;go_upto_region 8 with fail;(try rw[e2]);clear e2;have cM:=aa X.g2 (aa R.g2 (aa O.g2 T.g4));have cD:=aa d1 C;obtain⟨D,hD⟩:∃D,rd t.1=D:=⟨_,rfl⟩;rw[hD];have HD:=aB hD;have HQ:=aB hq;clear hD hq;cases D with
   |false=>
    have Q:p4 vars t=false:=by
     unfold p4;have:cG t.1=none:=by
      have h:=HD.out;unfold rd at h;exact Option.isSome_eq_false_iff.1 h |> Option.isNone_iff_eq_none.1
     rw[this];rfl
    obtain rfl:V=false:=HV.out.symm.trans (TR ah (TL (u:=t) P.out.1 (.inl Q)));clear Q;refine wp_region_noPanic ?_;refine wp_region_held_drew (S:=(fun w'=>True)) (by kernel_rfl) (by(try dsimp only);skip) (fun f=> ?_);refine b6 (v:= ?_) 0 38 rfl rfl (by kernel_rfl) (fun _ _ _ h=>h) (by rfl) f ?_ ?_;rotate_left;focus (intro w d;(try dsimp only at d);go_simp;(try with_reducible rfl);done)
    (try simp only[Act.put,List.setIfInBounds_toArray,bzS,List.set_cons_succ]);refine b6 (v:= ?_) 1 39 rfl rfl (by kernel_rfl) (fun _ _ _ h=>h) (by rfl) f ?_ ?_;rotate_left;focus (intro w d;(try dsimp only at d);go_simp;(try with_reducible rfl);done)
    (try simp only[Act.put,List.setIfInBounds_toArray,bzS,List.set_cons_succ]);refine b6 (v:= ?_) 2 40 rfl rfl (by kernel_rfl) (fun _ _ _ h=>h) (by rfl) f ?_ ?_;rotate_left;focus (intro w d;(try dsimp only at d);go_simp;(try with_reducible rfl);done)
    (try simp only[Act.put,List.setIfInBounds_toArray,bzS,List.set_cons_succ]);refine tE 3 41 (by kernel_rfl) (fun _ _ _ h=>h) f ?_;(try simp only[Act.put,List.setIfInBounds_toArray,bzS,List.set_cons_succ]);refine tE 4 42 (by kernel_rfl) (fun _ _ _ h=>h) f ?_;(try simp only[Act.put,List.setIfInBounds_toArray,bzS,List.set_cons_succ]);refine tE 5 43 (by kernel_rfl) (fun _ _ _ h=>h) f ?_;(try simp only[Act.put,List.setIfInBounds_toArray,bzS,List.set_cons_succ]);refine b6 (v:= ?_) 6 44 rfl rfl (by kernel_rfl) (fun _ _ _ h=>h) (by rfl) f ?_ ?_;rotate_left;focus (intro w d;(try dsimp only at d);go_simp;(try with_reducible rfl);done)
    (try simp only[Act.put,List.setIfInBounds_toArray,bzS,List.set_cons_succ]);refine b6 (v:= ?_) 7 45 rfl rfl (by kernel_rfl) (fun _ _ _ h=>h) (by rfl) f ?_ ?_;rotate_left;focus (intro w d;(try dsimp only at d);go_simp;(try with_reducible rfl);done)
    (try simp only[Act.put,List.setIfInBounds_toArray,bzS,List.set_cons_succ]);refine tE 8 46 (by kernel_rfl) (fun _ _ _ h=>h) f ?_;(try simp only[Act.put,List.setIfInBounds_toArray,bzS,List.set_cons_succ]);refine tE 9 47 (by kernel_rfl) (fun _ _ _ h=>h) f ?_;(try simp only[Act.put,List.setIfInBounds_toArray,bzS,List.set_cons_succ]);refine tE 10 48 (by kernel_rfl) (fun _ _ _ h=>h) f ?_;(try simp only[Act.put,List.setIfInBounds_toArray,bzS,List.set_cons_succ]);refine tE 11 49 (by kernel_rfl) (fun _ _ _ h=>h) f ?_;(try simp only[Act.put,List.setIfInBounds_toArray,bzS,List.set_cons_succ]);refine tE 12 50 (by kernel_rfl) (fun _ _ _ h=>h) f ?_;(try simp only[Act.put,List.setIfInBounds_toArray,bzS,List.set_cons_succ]);refine tE 13 51 (by kernel_rfl) (fun _ _ _ h=>h) f ?_;(try simp only[Act.put,List.setIfInBounds_toArray,bzS,List.set_cons_succ]);refine tE 14 52 (by kernel_rfl) (fun _ _ _ h=>h) f ?_;(try simp only[Act.put,List.setIfInBounds_toArray,bzS,List.set_cons_succ]);refine tE 15 53 (by kernel_rfl) (fun _ _ _ h=>h) f ?_;(try simp only[Act.put,List.setIfInBounds_toArray,bzS,List.set_cons_succ]);refine tE 16 54 (by kernel_rfl) (fun _ _ _ h=>h) f ?_;(try simp only[Act.put,List.setIfInBounds_toArray,bzS,List.set_cons_succ]);refine tE 17 55 (by kernel_rfl) (fun _ _ _ h=>h) f ?_;(try simp only[Act.put,List.setIfInBounds_toArray,bzS,List.set_cons_succ]);refine b6 (v:= ?_) 18 56 rfl rfl (by kernel_rfl) (fun _ _ _ h=>h) (by rfl) f ?_ ?_;rotate_left;focus (intro w d;(try dsimp only at d);go_simp;(try with_reducible rfl);done)
    (try simp only[Act.put,List.setIfInBounds_toArray,bzS,List.set_cons_succ]);refine wpAnyH_done (by kernel_rfl) ?_ _;refine NoPanic.normal ?_;replace R:Bx H.drew (w.1.size+1) [.int .i64 0,.slice none 0 0] 53:=R;replace l:=l.drew;have cR:=R.g2;generalize H.drew=E at *;go_wp2_with fail;obtain⟨Z,F,B,G, -, -⟩:=R.st2 l (Nat.le_succ _) (fun k z e=>by cases e) (.int .i64 0) (.slice none 0 0);rw[F];exact aM (v:= .tuple #[.agg #[.int .i64 0,.slice none 0 0],.bool false]) (by simp[results,results42,go_sem,B.k2]) rfl ⟨_,_,_,_,rfl,(fun e=>Bool.noConfusion (show false=true from e)),G⟩
   |true=>
    obtain⟨r,ao⟩:∃r,cG t.1=some r:=Option.isSome_iff_exists.1 HD.out;obtain rfl:q=r:=HQ.out r ao;have kq:=OK.out.one t P.out.2 q ao;have ai:=fun W h=>oC q (.agg #[.bool s1,.slice A1 k1 af,.bool s2,.slice A2 k2 ag]) W h (aH kq.1 (by decide));unfold eO at ai;have N:=JG q;have aq:=aB ao;obtain⟨S,d⟩:∃S,q.num.sign=S:=⟨_,rfl⟩;rw[d] at ai N;clear d ao;by_cases an:q=0
    ·have Q:p4 vars t=false:=by unfold p4;rw[aq.out,an];rfl
     obtain rfl:V=false:=HV.out.symm.trans (TR ah (TL (u:=t) P.out.1 (.inl Q)));have bx:(S==0)=true:=by rw[N];exact decide_eq_true an
     clear Q N;refine wp_region_noPanic ?_;refine wp_region_held_drew (S:=(fun w'=>C4 w' w1.1.size (.bool s1) (.slice A1 k1 af) (.bool s2) (.slice A2 k2 ag))) (by kernel_rfl) (by(try dsimp only);(exact T.k4)) (fun f=> ?_);refine b6 (v:= ?_) 0 38 rfl rfl (by kernel_rfl) (fun _ _ _ h=>h) (by rfl) f ?_ ?_;rotate_left;focus (intro w d;(try dsimp only at d);go_simp;(try with_reducible rfl);done)
     (try simp only[Act.put,List.setIfInBounds_toArray,bzS,List.set_cons_succ]);refine b6 (v:= ?_) 1 39 rfl rfl (by kernel_rfl) (fun _ _ _ h=>h) (by rfl) f ?_ ?_;rotate_left;focus (intro w d;(try dsimp only at d);go_simp;(try with_reducible rfl);done)
     (try simp only[Act.put,List.setIfInBounds_toArray,bzS,List.set_cons_succ]);refine b6 (v:= ?_) 2 40 rfl rfl (by kernel_rfl) (fun _ _ _ h=>h) (by rfl) f ?_ ?_;rotate_left;focus (intro w d;(try dsimp only at d);go_simp;(try with_reducible rfl);done)
     (try simp only[Act.put,List.setIfInBounds_toArray,bzS,List.set_cons_succ]);refine b6 (v:= ?_) 3 41 rfl rfl (by kernel_rfl) (fun _ _ _ h=>h) (by rfl) f ?_ ?_;rotate_left;focus (intro w d;(try dsimp only at d);go_simp;(try with_reducible rfl);done)
     (try simp only[Act.put,List.setIfInBounds_toArray,bzS,List.set_cons_succ]);refine wpAnyH_ready (rs:=[4]) (by kernel_rfl) (by simp) (AllReadyH.cons (o:=_) rfl (fun K m=> ?_) AllReadyH.nil);go_simp;(go_at_call 51;refine(ai _ (I.drew)).mono ?_;rintro e3 E ⟨rfl,ac⟩;have s:Below H.1.size H E:=(aG H.1.size H).drew.trans (ac.mono aE));go_wp2_with fail;refine m.out _ _ (by(try dsimp only);(exact(T.be s).k4)) (fun f=> ?_);clear m K;(try simp only[Act.put,List.setIfInBounds_toArray,bzS,List.set_cons_succ]);refine b6 (v:= ?_) 5 43 rfl rfl (by kernel_rfl) (fun _ _ _ h=>h) (by rfl) f ?_ ?_;rotate_left;focus (intro w d;(try dsimp only at d);go_simp;(try with_reducible rfl);done)
     (try simp only[Act.put,List.setIfInBounds_toArray,bzS,List.set_cons_succ]);refine b6 (v:= ?_) 6 44 rfl rfl (by kernel_rfl) (fun _ _ _ h=>h) (by rfl) f ?_ ?_;rotate_left;focus (intro w d;(try dsimp only at d);go_simp;(try with_reducible rfl);done)
     (try simp only[Act.put,List.setIfInBounds_toArray,bzS,List.set_cons_succ]);refine b6 (v:= ?_) 7 45 rfl rfl (by kernel_rfl) (fun _ _ _ h=>h) (by rfl) f ?_ ?_;rotate_left;focus (intro w d;(try dsimp only at d);go_simp;(try with_reducible rfl);done)
     (try simp only[Act.put,List.setIfInBounds_toArray,bzS,List.set_cons_succ]);refine tE 8 46 (by kernel_rfl) (fun _ _ _ h=>h) f ?_;(try simp only[Act.put,List.setIfInBounds_toArray,bzS,List.set_cons_succ]);refine tE 9 47 (by kernel_rfl) (fun _ _ _ h=>h) f ?_;(try simp only[Act.put,List.setIfInBounds_toArray,bzS,List.set_cons_succ]);refine tE 10 48 (by kernel_rfl) (fun _ _ _ h=>h) f ?_;(try simp only[Act.put,List.setIfInBounds_toArray,bzS,List.set_cons_succ]);refine tE 11 49 (by kernel_rfl) (fun _ _ _ h=>h) f ?_;(try simp only[Act.put,List.setIfInBounds_toArray,bzS,List.set_cons_succ]);refine tE 12 50 (by kernel_rfl) (fun _ _ _ h=>h) f ?_;(try simp only[Act.put,List.setIfInBounds_toArray,bzS,List.set_cons_succ]);refine tE 13 51 (by kernel_rfl) (fun _ _ _ h=>h) f ?_;(try simp only[Act.put,List.setIfInBounds_toArray,bzS,List.set_cons_succ]);refine tE 14 52 (by kernel_rfl) (fun _ _ _ h=>h) f ?_;(try simp only[Act.put,List.setIfInBounds_toArray,bzS,List.set_cons_succ]);refine tE 15 53 (by kernel_rfl) (fun _ _ _ h=>h) f ?_;(try simp only[Act.put,List.setIfInBounds_toArray,bzS,List.set_cons_succ]);refine tE 16 54 (by kernel_rfl) (fun _ _ _ h=>h) f ?_;(try simp only[Act.put,List.setIfInBounds_toArray,bzS,List.set_cons_succ]);refine tE 17 55 (by kernel_rfl) (fun _ _ _ h=>h) f ?_;(try simp only[Act.put,List.setIfInBounds_toArray,bzS,List.set_cons_succ]);refine b6 (v:= ?_) 18 56 rfl rfl (by kernel_rfl) (fun _ _ _ h=>h) (by rfl) f ?_ ?_;rotate_left;focus (intro w d;(try dsimp only at d);go_simp;(try with_reducible rfl);done)
     (try simp only[Act.put,List.setIfInBounds_toArray,bzS,List.set_cons_succ]);refine wpAnyH_done (by kernel_rfl) ?_ _;refine NoPanic.normal ?_;replace R:=R.be s;replace l:=aC l s;clear ac;have cR:=R.g2;go_wp2_with fail;obtain⟨Z,F,B,G, -, -⟩:=R.st2 l (Nat.le_succ _) (fun k z e=>by cases e) (.int .i64 0) (.slice none 0 0);rw[F];exact aM (v:= .tuple #[.agg #[.int .i64 0,.slice none 0 0],.bool false]) (by simp[results,results42,go_sem,B.k2]) rfl ⟨_,_,_,_,rfl,(fun e=>Bool.noConfusion (show false=true from e)),G⟩
    have bx:(S==0)=false:=by rw[N];exact decide_eq_false an
    clear N;by_cases hn:(t.2.length:Int)=vars;rotate_left
    ·have Q:p4 vars t=false:=by unfold p4;rw[decide_eq_false hn,Bool.false_and,Bool.and_false]
     obtain rfl:V=false:=HV.out.symm.trans (TR ah (TL (u:=t) P.out.1 (.inl Q)));have cd:((t.2.length:Int) != vars)=true:=bne_iff_ne.2 hn;clear Q hn;refine wp_region_noPanic ?_;refine wp_region_held_drew (S:=(fun w'=>C4 w' w1.1.size (.bool s1) (.slice A1 k1 af) (.bool s2) (.slice A2 k2 ag)∧C2 w' w.1.size (.int .i64 vars) (.slice (some ⟨b,y,none⟩) ts.length c)∧w'.cell? ⟨b,y+j*2+1,none⟩=some (.slice Au t.2.length cu))) (by kernel_rfl) (by(try dsimp only);(exact⟨T.k4,X.k2,C⟩)) (fun f=> ?_);refine b6 (v:= ?_) 0 38 rfl rfl (by kernel_rfl) (fun _ _ _ h=>h) (by rfl) f ?_ ?_;rotate_left;focus (intro w d;(try dsimp only at d);go_simp;(try with_reducible rfl);done)
     (try simp only[Act.put,List.setIfInBounds_toArray,bzS,List.set_cons_succ]);refine b6 (v:= ?_) 1 39 rfl rfl (by kernel_rfl) (fun _ _ _ h=>h) (by rfl) f ?_ ?_;rotate_left;focus (intro w d;(try dsimp only at d);go_simp;(try with_reducible rfl);done)
     (try simp only[Act.put,List.setIfInBounds_toArray,bzS,List.set_cons_succ]);refine b6 (v:= ?_) 2 40 rfl rfl (by kernel_rfl) (fun _ _ _ h=>h) (by rfl) f ?_ ?_;rotate_left;focus (intro w d;(try dsimp only at d);go_simp;(try with_reducible rfl);done)
     (try simp only[Act.put,List.setIfInBounds_toArray,bzS,List.set_cons_succ]);refine b6 (v:= ?_) 3 41 rfl rfl (by kernel_rfl) (fun _ _ _ h=>h) (by rfl) f ?_ ?_;rotate_left;focus (intro w d;(try dsimp only at d);go_simp;(try with_reducible rfl);done)
     (try simp only[Act.put,List.setIfInBounds_toArray,bzS,List.set_cons_succ]);refine wpAnyH_ready (rs:=[4]) (by kernel_rfl) (by simp) (AllReadyH.cons (o:=_) rfl (fun K m=> ?_) AllReadyH.nil);go_simp;(go_at_call 51;refine(ai _ (I.drew)).mono ?_;rintro e3 E ⟨rfl,ac⟩;have s:Below H.1.size H E:=(aG H.1.size H).drew.trans (ac.mono aE));go_wp2_with fail;refine m.out _ _ (by(try dsimp only);(exact⟨(T.be s).k4,(X.be s).k2,(s.cell (p:=⟨b,_,none⟩) a8).trans C⟩)) (fun f=> ?_);clear m K;(try simp only[Act.put,List.setIfInBounds_toArray,bzS,List.set_cons_succ]);refine b6 (v:= ?_) 5 43 rfl rfl (by kernel_rfl) (fun _ _ _ h=>h) (by rfl) f ?_ ?_;rotate_left;focus (intro w d;(try dsimp only at d);go_simp;(try with_reducible rfl);done)
     (try simp only[Act.put,List.setIfInBounds_toArray,bzS,List.set_cons_succ]);refine b6 (v:= ?_) 6 44 rfl rfl (by kernel_rfl) (fun _ _ _ h=>h) (by rfl) f ?_ ?_;rotate_left;focus (intro w d;(try dsimp only at d);go_simp;(try with_reducible rfl);done)
     (try simp only[Act.put,List.setIfInBounds_toArray,bzS,List.set_cons_succ]);refine b6 (v:= ?_) 7 45 rfl rfl (by kernel_rfl) (fun _ _ _ h=>h) (by rfl) f ?_ ?_;rotate_left;focus (intro w d;(try dsimp only at d);go_simp;(try with_reducible rfl);done)
     (try simp only[Act.put,List.setIfInBounds_toArray,bzS,List.set_cons_succ]);refine b6 (v:= ?_) 8 46 rfl rfl (by kernel_rfl) (fun _ _ _ h=>h) (by rfl) f ?_ ?_;rotate_left;focus (intro w d;(try dsimp only at d);go_simp;(try with_reducible rfl);done)
     (try simp only[Act.put,List.setIfInBounds_toArray,bzS,List.set_cons_succ]);refine b6 (v:= ?_) 9 47 rfl rfl (by kernel_rfl) (fun _ _ _ h=>h) (by rfl) f ?_ ?_;rotate_left;focus (intro w d;(try dsimp only at d);go_simp;(try with_reducible rfl);done)
     (try simp only[Act.put,List.setIfInBounds_toArray,bzS,List.set_cons_succ]);refine b6 (v:= ?_) 10 48 rfl rfl (by kernel_rfl) (fun _ _ _ h=>h) (by rfl) f ?_ ?_;rotate_left;focus (intro w d;(try dsimp only at d);go_simp;(try with_reducible rfl);done)
     (try simp only[Act.put,List.setIfInBounds_toArray,bzS,List.set_cons_succ]);refine b6 (v:= ?_) 11 49 rfl rfl (by kernel_rfl) (fun _ _ _ h=>h) (by rfl) f ?_ ?_;rotate_left;focus (intro w d;(try dsimp only at d);go_simp;(try with_reducible rfl);done)
     (try simp only[Act.put,List.setIfInBounds_toArray,bzS,List.set_cons_succ]);refine b6 (v:= ?_) 12 50 rfl rfl (by kernel_rfl) (fun _ _ _ h=>h) (by rfl) f ?_ ?_;rotate_left;focus (intro w d;(try dsimp only at d);go_simp;(try with_reducible rfl);done)
     (try simp only[Act.put,List.setIfInBounds_toArray,bzS,List.set_cons_succ]);refine b6 (v:= ?_) 13 51 rfl rfl (by kernel_rfl) (fun _ _ _ h=>h) (by rfl) f ?_ ?_;rotate_left;focus (intro w d;(try dsimp only at d);go_simp;(try with_reducible rfl);done)
     (try simp only[Act.put,List.setIfInBounds_toArray,bzS,List.set_cons_succ]);refine b6 (v:= ?_) 14 52 rfl rfl (by kernel_rfl) (fun _ _ _ h=>h) (by rfl) f ?_ ?_;rotate_left;focus (intro w d;(try dsimp only at d);go_simp;(try with_reducible rfl);done)
     (try simp only[Act.put,List.setIfInBounds_toArray,bzS,List.set_cons_succ]);refine b6 (v:= ?_) 15 53 rfl rfl (by kernel_rfl) (fun _ _ _ h=>h) (by rfl) f ?_ ?_;rotate_left;focus (intro w d;(try dsimp only at d);go_simp;(try with_reducible rfl);done)
     (try simp only[Act.put,List.setIfInBounds_toArray,bzS,List.set_cons_succ]);refine b6 (v:= ?_) 16 54 rfl rfl (by kernel_rfl) (fun _ _ _ h=>h) (by rfl) f ?_ ?_;rotate_left;focus (intro w d;(try dsimp only at d);go_simp;(try with_reducible rfl);done)
     (try simp only[Act.put,List.setIfInBounds_toArray,bzS,List.set_cons_succ]);refine b6 (v:= ?_) 17 55 rfl rfl (by kernel_rfl) (fun _ _ _ h=>h) (by rfl) f ?_ ?_;rotate_left;focus (intro w d;(try dsimp only at d);go_simp;(try with_reducible rfl);done)
     (try simp only[Act.put,List.setIfInBounds_toArray,bzS,List.set_cons_succ]);refine b6 (v:= ?_) 18 56 rfl rfl (by kernel_rfl) (fun _ _ _ h=>h) (by rfl) f ?_ ?_;rotate_left;focus (intro w d;(try dsimp only at d);go_simp;(try with_reducible rfl);done)
     (try simp only[Act.put,List.setIfInBounds_toArray,bzS,List.set_cons_succ]);refine wpAnyH_done (by kernel_rfl) ?_ _;refine NoPanic.normal ?_;replace R:=R.be s;replace l:=aC l s;clear ac;have cR:=R.g2;go_wp2_with fail;obtain⟨Z,F,B,G, -, -⟩:=R.st2 l (Nat.le_succ _) (fun k z e=>by cases e) (.int .i64 0) (.slice none 0 0);rw[F];exact aM (v:= .tuple #[.agg #[.int .i64 0,.slice none 0 0],.bool false]) (by simp[results,results42,go_sem,B.k2]) rfl ⟨_,_,_,_,rfl,(fun e=>Bool.noConfusion (show false=true from e)),G⟩
    have cd:((t.2.length:Int) != vars)=false:=by rw[hn];exact bne_self_eq_false _
    have HN:=aB hn;have cy:t.2.length<=6:=by omega
    clear hn;refine wp_region_noPanic ?_;refine wp_region_held_drew (S:=(fun w'=>C4 w' w1.1.size (.bool s1) (.slice A1 k1 af) (.bool s2) (.slice A2 k2 ag)∧C2 w' w.1.size (.int .i64 vars) (.slice (some ⟨b,y,none⟩) ts.length c)∧w'.cell? ⟨b,y+j*2+1,none⟩=some (.slice Au t.2.length cu))) (by kernel_rfl) (by(try dsimp only);(exact⟨T.k4,X.k2,C⟩)) (fun f=> ?_);refine b6 (v:= ?_) 0 38 rfl rfl (by kernel_rfl) (fun _ _ _ h=>h) (by rfl) f ?_ ?_;rotate_left;focus (intro w d;(try dsimp only at d);go_simp;(try with_reducible rfl);done)
    (try simp only[Act.put,List.setIfInBounds_toArray,bzS,List.set_cons_succ]);refine b6 (v:= ?_) 1 39 rfl rfl (by kernel_rfl) (fun _ _ _ h=>h) (by rfl) f ?_ ?_;rotate_left;focus (intro w d;(try dsimp only at d);go_simp;(try with_reducible rfl);done)
    (try simp only[Act.put,List.setIfInBounds_toArray,bzS,List.set_cons_succ]);refine b6 (v:= ?_) 2 40 rfl rfl (by kernel_rfl) (fun _ _ _ h=>h) (by rfl) f ?_ ?_;rotate_left;focus (intro w d;(try dsimp only at d);go_simp;(try with_reducible rfl);done)
    (try simp only[Act.put,List.setIfInBounds_toArray,bzS,List.set_cons_succ]);refine b6 (v:= ?_) 3 41 rfl rfl (by kernel_rfl) (fun _ _ _ h=>h) (by rfl) f ?_ ?_;rotate_left;focus (intro w d;(try dsimp only at d);go_simp;(try with_reducible rfl);done)
    (try simp only[Act.put,List.setIfInBounds_toArray,bzS,List.set_cons_succ]);refine wpAnyH_ready (rs:=[4]) (by kernel_rfl) (by simp) (AllReadyH.cons (o:=_) rfl (fun K m=> ?_) AllReadyH.nil);go_simp;(go_at_call 51;refine(ai _ (I.drew)).mono ?_;rintro e3 E ⟨rfl,ac⟩;have s:Below H.1.size H E:=(aG H.1.size H).drew.trans (ac.mono aE));go_wp2_with fail;refine m.out _ _ (by(try dsimp only);(exact⟨(T.be s).k4,(X.be s).k2,(s.cell (p:=⟨b,_,none⟩) a8).trans C⟩)) (fun f=> ?_);clear m K;(try simp only[Act.put,List.setIfInBounds_toArray,bzS,List.set_cons_succ]);refine b6 (v:= ?_) 5 43 rfl rfl (by kernel_rfl) (fun _ _ _ h=>h) (by rfl) f ?_ ?_;rotate_left;focus (intro w d;(try dsimp only at d);go_simp;(try with_reducible rfl);done)
    (try simp only[Act.put,List.setIfInBounds_toArray,bzS,List.set_cons_succ]);refine b6 (v:= ?_) 6 44 rfl rfl (by kernel_rfl) (fun _ _ _ h=>h) (by rfl) f ?_ ?_;rotate_left;focus (intro w d;(try dsimp only at d);go_simp;(try with_reducible rfl);done)
    (try simp only[Act.put,List.setIfInBounds_toArray,bzS,List.set_cons_succ]);refine b6 (v:= ?_) 7 45 rfl rfl (by kernel_rfl) (fun _ _ _ h=>h) (by rfl) f ?_ ?_;rotate_left;focus (intro w d;(try dsimp only at d);go_simp;(try with_reducible rfl);done)
    (try simp only[Act.put,List.setIfInBounds_toArray,bzS,List.set_cons_succ]);refine b6 (v:= ?_) 8 46 rfl rfl (by kernel_rfl) (fun _ _ _ h=>h) (by rfl) f ?_ ?_;rotate_left;focus (intro w d;(try dsimp only at d);go_simp;(try with_reducible rfl);done)
    (try simp only[Act.put,List.setIfInBounds_toArray,bzS,List.set_cons_succ]);refine b6 (v:= ?_) 9 47 rfl rfl (by kernel_rfl) (fun _ _ _ h=>h) (by rfl) f ?_ ?_;rotate_left;focus (intro w d;(try dsimp only at d);go_simp;(try with_reducible rfl);done)
    (try simp only[Act.put,List.setIfInBounds_toArray,bzS,List.set_cons_succ]);refine b6 (v:= ?_) 10 48 rfl rfl (by kernel_rfl) (fun _ _ _ h=>h) (by rfl) f ?_ ?_;rotate_left;focus (intro w d;(try dsimp only at d);go_simp;(try with_reducible rfl);done)
    (try simp only[Act.put,List.setIfInBounds_toArray,bzS,List.set_cons_succ]);refine b6 (v:= ?_) 11 49 rfl rfl (by kernel_rfl) (fun _ _ _ h=>h) (by rfl) f ?_ ?_;rotate_left;focus (intro w d;(try dsimp only at d);go_simp;(try with_reducible rfl);done)
    (try simp only[Act.put,List.setIfInBounds_toArray,bzS,List.set_cons_succ]);refine b6 (v:= ?_) 12 50 rfl rfl (by kernel_rfl) (fun _ _ _ h=>h) (by rfl) f ?_ ?_;rotate_left;focus (intro w d;(try dsimp only at d);go_simp;(try with_reducible rfl);done)
    (try simp only[Act.put,List.setIfInBounds_toArray,bzS,List.set_cons_succ]);refine b6 (v:= ?_) 13 51 rfl rfl (by kernel_rfl) (fun _ _ _ h=>h) (by rfl) f ?_ ?_;rotate_left;focus (intro w d;(try dsimp only at d);go_simp;(try with_reducible rfl);done)
    (try simp only[Act.put,List.setIfInBounds_toArray,bzS,List.set_cons_succ]);refine b6 (v:= ?_) 14 52 rfl rfl (by kernel_rfl) (fun _ _ _ h=>h) (by rfl) f ?_ ?_;rotate_left;focus (intro w d;(try dsimp only at d);go_simp;(try with_reducible rfl);done)
    (try simp only[Act.put,List.setIfInBounds_toArray,bzS,List.set_cons_succ]);refine b6 (v:= ?_) 15 53 rfl rfl (by kernel_rfl) (fun _ _ _ h=>h) (by rfl) f ?_ ?_;rotate_left;focus (intro w d;(try dsimp only at d);go_simp;(try with_reducible rfl);done)
    (try simp only[Act.put,List.setIfInBounds_toArray,bzS,List.set_cons_succ]);refine b6 (v:= ?_) 16 54 rfl rfl (by kernel_rfl) (fun _ _ _ h=>h) (by rfl) f ?_ ?_;rotate_left;focus (intro w d;(try dsimp only at d);go_simp;(try with_reducible rfl);done)
    (try simp only[Act.put,List.setIfInBounds_toArray,bzS,List.set_cons_succ]);refine b6 (v:= ?_) 17 55 rfl rfl (by kernel_rfl) (fun _ _ _ h=>h) (by rfl) f ?_ ?_;rotate_left;focus (intro w d;(try dsimp only at d);go_simp;(try with_reducible rfl);done)
    (try simp only[Act.put,List.setIfInBounds_toArray,bzS,List.set_cons_succ]);refine b6 (v:= ?_) 18 56 rfl rfl (by kernel_rfl) (fun _ _ _ h=>h) (by rfl) f ?_ ?_;rotate_left;focus (intro w d;(try dsimp only at d);go_simp;(try with_reducible rfl);done)
    (try simp only[Act.put,List.setIfInBounds_toArray,bzS,List.set_cons_succ]);refine wpAnyH_done (by kernel_rfl) ?_ _;refine NoPanic.normal ?_;replace X:=X.be s;replace R:=R.be s;replace O:=O.be s;replace T:=T.be s;replace L:=L.be s;replace I:=I.be s;replace C:=(s.cell (p:=⟨b,y+j*2+1,none⟩) a8).trans C;replace l:=aC l s;clear ac ai bx cM cD d1;have cM:=aa X.g2 (aa R.g2 (aa O.g2 T.g4));have hn:=HN.out;subst hn;have ch:=hu.be l;go_wp2_with fail;go_loopg [8] t.2.length (fun k vi wr=>∃a:Nat,Hid (a+k=t.2.length)∧vi= .int .i64 a∧Hid (∀x∈t.2.take a,0<=x∧x<=1048576)∧E=wr)
    case atStart=>exact⟨0,by unfold Hid;omega,rfl,fun x hx=>by simp at hx,rfl⟩
    case round=>
     obtain⟨a,HA,rfl,HE,rfl⟩:=hrel;have cp:(0:Int)<=(a:Int):=by omega
     cases gk with
     |succ k2=>
      have b5:a<t.2.length:=by have:=HA.out;omega
      have q2:(a:Int)<(t.2.length:Int):=by omega
      obtain⟨x,hx⟩:∃x,t.2[a]? =some x:=⟨_,aR b5⟩;obtain⟨bu,ou,rfl,lu,ar⟩:=ch.at_ hx;have a6:=dG hx;obtain⟨x1,x2⟩:=OK.out.ex t P.out.2 x a6;have HX:=aB (And.intro hx a6);clear hx a6;have ak:¬(0<=x∧x<=1048576)->V=false:=fun h=>by
       have Q:p4 (t.2.length:Int) t=false:=by
        cases ho:p4 (t.2.length:Int) t with
        |false=>rfl
        |true=>exact absurd ((Y9 ho).2.2 x HX.out.2) h
       exact HV.out.symm.trans (TR ah (TL (u:=t) P.out.1 (.inl Q)))
      by_cases y1:x<0
      ·obtain rfl:=ak (by omega);clear ak;go_wp2_with fail;obtain⟨Z,F,B,G, -, -⟩:=R.st2 l (Nat.le_succ _) (fun k z e=>by cases e) (.int .i64 0) (.slice none 0 0);rw[F];exact aM (v:= .tuple #[.agg #[.int .i64 0,.slice none 0 0],.bool false]) (by simp[results,results42,go_sem,B.k2]) rfl ⟨_,_,_,_,rfl,(fun e=>Bool.noConfusion (show false=true from e)),G⟩
      ·have cm:0<=x:=by omega
       by_cases y2:1048576<x
       ·obtain rfl:=ak (by omega);clear ak;go_wp2_with fail;obtain⟨Z,F,B,G, -, -⟩:=R.st2 l (Nat.le_succ _) (fun k z e=>by cases e) (.int .i64 0) (.slice none 0 0);rw[F];exact aM (v:= .tuple #[.agg #[.int .i64 0,.slice none 0 0],.bool false]) (by simp[results,results42,go_sem,B.k2]) rfl ⟨_,_,_,_,rfl,(fun e=>Bool.noConfusion (show false=true from e)),G⟩
       ·clear ak;go_wp2;go_roundg k2
        case rel=>exact⟨a+1,by have:=HA.out;unfold Hid;omega,by go_num,fun z N=>by
         rw[Q9,HX.out.1,aqO] at N;rcases List.mem_append.1 N with h|h
         ·exact HE.out z h
         ·rw[List.mem_singleton.1 h];exact⟨cm,by omega⟩,rfl⟩
        case measure=>omega
     |zero=>
      have ha:a=t.2.length:=HA.out;have a0:p4 (t.2.length:Int) t=true:=by
       unfold p4;rw[aq.out,decide_eq_true rfl,Bool.true_and,az7,List.all_eq_true];refine⟨by simpa using an,fun x hx=>decide_eq_true (HE.out x ?_)⟩;rw[ha,aq9];exact hx
      have b9:Ex t.2:=ezZ a0 v6;have bg:=aB a0;subst ha;clear a0 HA HE;go_wp2_with fail;by_cases N:j=0
      focus (
       have ae:pA (t.2.length:Int) ts j=true:=ezI P.out.1 bg.out (fun u h0 _=>by omega);have bf:=aB ae;have z1:¬(0:Int)<(j:Int):=by omega
       have z2:¬0<j:=by omega
       clear ae N;refine wp_region_noPanic ?_;refine wp_region_held_drew (S:=(fun w'=>True)) (by kernel_rfl) (by(try dsimp only);skip) (fun f=> ?_);refine b6 (v:= ?_) 0 87 rfl rfl (by kernel_rfl) (fun _ _ _ h=>h) (by rfl) f ?_ ?_;rotate_left;focus (intro w d;(try dsimp only at d);go_simp;(try with_reducible rfl);done)
       (try simp only[Act.put,List.setIfInBounds_toArray,bzS,List.set_cons_succ]);refine b6 (v:= ?_) 1 88 rfl rfl (by kernel_rfl) (fun _ _ _ h=>h) (by rfl) f ?_ ?_;rotate_left;focus (intro w d;(try dsimp only at d);go_simp;(try with_reducible rfl);done)
       (try simp only[Act.put,List.setIfInBounds_toArray,bzS,List.set_cons_succ]);refine b6 (v:= ?_) 2 89 rfl rfl (by kernel_rfl) (fun _ _ _ h=>h) (by rfl) f ?_ ?_;rotate_left;focus (intro w d;(try dsimp only at d);go_simp;(try with_reducible rfl);done)
       (try simp only[Act.put,List.setIfInBounds_toArray,bzS,List.set_cons_succ]);refine tE 3 90 (by kernel_rfl) (fun _ _ _ h=>h) f ?_;(try simp only[Act.put,List.setIfInBounds_toArray,bzS,List.set_cons_succ]);refine tE 4 91 (by kernel_rfl) (fun _ _ _ h=>h) f ?_;(try simp only[Act.put,List.setIfInBounds_toArray,bzS,List.set_cons_succ]);refine tE 5 92 (by kernel_rfl) (fun _ _ _ h=>h) f ?_;(try simp only[Act.put,List.setIfInBounds_toArray,bzS,List.set_cons_succ]);refine tE 6 93 (by kernel_rfl) (fun _ _ _ h=>h) f ?_;(try simp only[Act.put,List.setIfInBounds_toArray,bzS,List.set_cons_succ]);refine tE 7 94 (by kernel_rfl) (fun _ _ _ h=>h) f ?_;(try simp only[Act.put,List.setIfInBounds_toArray,bzS,List.set_cons_succ]);refine tE 8 95 (by kernel_rfl) (fun _ _ _ h=>h) f ?_;(try simp only[Act.put,List.setIfInBounds_toArray,bzS,List.set_cons_succ]);refine tE 9 96 (by kernel_rfl) (fun _ _ _ h=>h) f ?_;(try simp only[Act.put,List.setIfInBounds_toArray,bzS,List.set_cons_succ]);refine tE 10 97 (by kernel_rfl) (fun _ _ _ h=>h) f ?_;(try simp only[Act.put,List.setIfInBounds_toArray,bzS,List.set_cons_succ]);refine tE 11 98 (by kernel_rfl) (fun _ _ _ h=>h) f ?_;(try simp only[Act.put,List.setIfInBounds_toArray,bzS,List.set_cons_succ]);refine tE 12 99 (by kernel_rfl) (fun _ _ _ h=>h) f ?_;(try simp only[Act.put,List.setIfInBounds_toArray,bzS,List.set_cons_succ]);refine tE 13 100 (by kernel_rfl) (fun _ _ _ h=>h) f ?_;(try simp only[Act.put,List.setIfInBounds_toArray,bzS,List.set_cons_succ]);refine tE 14 101 (by kernel_rfl) (fun _ _ _ h=>h) f ?_;(try simp only[Act.put,List.setIfInBounds_toArray,bzS,List.set_cons_succ]);refine tE 15 102 (by kernel_rfl) (fun _ _ _ h=>h) f ?_;(try simp only[Act.put,List.setIfInBounds_toArray,bzS,List.set_cons_succ]);refine tE 16 103 (by kernel_rfl) (fun _ _ _ h=>h) f ?_;(try simp only[Act.put,List.setIfInBounds_toArray,bzS,List.set_cons_succ]);refine tE 17 104 (by kernel_rfl) (fun _ _ _ h=>h) f ?_;(try simp only[Act.put,List.setIfInBounds_toArray,bzS,List.set_cons_succ]);refine b6 (v:= ?_) 18 105 rfl rfl (by kernel_rfl) (fun _ _ _ h=>h) (by rfl) f ?_ ?_;rotate_left;focus (intro w d;(try dsimp only at d);go_simp;(try with_reducible rfl);done)
       (try simp only[Act.put,List.setIfInBounds_toArray,bzS,List.set_cons_succ]);refine wpAnyH_done (by kernel_rfl) ?_ _;refine NoPanic.normal ?_;have M:Below E.1.size E E.drew:=(aG E.1.size E).drew;replace X:=X.be M;replace R:=R.be M;replace O:=O.be M;replace T:=T.be M;replace L:=L.be M;replace I:=I.be M;replace C:=(M.cell (p:=⟨b,y+j*2+1,none⟩) (aZ lb l.size)).trans C;replace l:=aC l M;clear cM M;go_upto_region 17 with fail;generalize E.drew=U at *)
      rotate_left
      focus (
       obtain⟨t',ap⟩:∃t',ts[j-1]? =some t':=⟨_,aR (by omega)⟩;obtain⟨b',cz,u',e',cj, -,bz,bt⟩:=(hv.be aj).at_ ap;injection e' with e';injection e' with ea eb;subst ea eb;obtain⟨bb,ar,rfl,cr⟩:=bt.form;have d3:=(l.cell (p:=⟨b,y+(j-1)*2+1,none⟩) cj).trans bz;have az:p4 (t.2.length:Int) t'=true:=(ezH (HI.out (j-1) (by omega)) ap).1;have bp:=ezZ az v6;have bq:t'.2.length=t.2.length:=by
        have I:=(Y9 az).2.1;omega
       have a1:=fun W h h'=>eqX t'.2 t.2 (.slice bb t'.2.length ar) (.slice Au t.2.length cu) W h h' bq bp b9;have bi:=aB ap;have aw:=l.drew;have z1:(0:Int)<(j:Int):=by omega
       have z2:0<j:=by omega
       have z3:(j:Int)-1=((j-1:Nat):Int):=by omega
       have z4:((j-1:Nat):Int)<(ts.length:Int):=by omega
       have z5:(0:Int)<=((j-1:Nat):Int):=by omega
       have z7:IntKind.i64.wrap ((j-1:Nat):Int)=((j-1:Nat):Int):=IntWalk.i64_in _ ⟨by omega,by omega⟩;obtain⟨ov,a2⟩:∃ov,eZ t'.2 t.2=ov:=⟨_,rfl⟩;rw[a2] at a1;have bh:=aB a2;clear a2 az bp bq N ap;have a9:b<E.1.size:=aZ lb l.size;refine wp_region_noPanic ?_;refine wp_region_held_drew (S:=(fun w'=>C2 w' w.1.size (.int .i64 (t.2.length:Int)) (.slice (some ⟨b,y,none⟩) ts.length c)∧w'.cell? ⟨b,y+j*2+1,none⟩=some (.slice Au t.2.length cu)∧w'.cell? ⟨b,y+(j-1)*2+1,none⟩=some (.slice bb t'.2.length ar))) (by kernel_rfl) (by(try dsimp only);(exact⟨X.k2,C,d3⟩)) (fun f=> ?_);refine b6 (v:= ?_) 0 87 rfl rfl (by kernel_rfl) (fun _ _ _ h=>h) (by rfl) f ?_ ?_;rotate_left;focus (intro w d;(try dsimp only at d);go_simp;(try with_reducible rfl);done)
       (try simp only[Act.put,List.setIfInBounds_toArray,bzS,List.set_cons_succ]);refine b6 (v:= ?_) 1 88 rfl rfl (by kernel_rfl) (fun _ _ _ h=>h) (by rfl) f ?_ ?_;rotate_left;focus (intro w d;(try dsimp only at d);go_simp;(try with_reducible rfl);done)
       (try simp only[Act.put,List.setIfInBounds_toArray,bzS,List.set_cons_succ]);refine b6 (v:= ?_) 2 89 rfl rfl (by kernel_rfl) (fun _ _ _ h=>h) (by rfl) f ?_ ?_;rotate_left;focus (intro w d;(try dsimp only at d);go_simp;(try with_reducible rfl);done)
       (try simp only[Act.put,List.setIfInBounds_toArray,bzS,List.set_cons_succ]);refine b6 (v:= ?_) 3 90 rfl rfl (by kernel_rfl) (fun _ _ _ h=>h) (by rfl) f ?_ ?_;rotate_left;focus (intro w d;(try dsimp only at d);go_simp;(try with_reducible rfl);done)
       (try simp only[Act.put,List.setIfInBounds_toArray,bzS,List.set_cons_succ]);refine b6 (v:= ?_) 4 91 rfl rfl (by kernel_rfl) (fun _ _ _ h=>h) (by rfl) f ?_ ?_;rotate_left;focus (intro w d;(try dsimp only at d);go_simp;(try with_reducible rfl);done)
       (try simp only[Act.put,List.setIfInBounds_toArray,bzS,List.set_cons_succ]);refine b6 (v:= ?_) 5 92 rfl rfl (by kernel_rfl) (fun _ _ _ h=>h) (by rfl) f ?_ ?_;rotate_left;focus (intro w d;(try dsimp only at d);go_simp;(try with_reducible rfl);done)
       (try simp only[Act.put,List.setIfInBounds_toArray,bzS,List.set_cons_succ]);refine b6 (v:= ?_) 6 93 rfl rfl (by kernel_rfl) (fun _ _ _ h=>h) (by rfl) f ?_ ?_;rotate_left;focus (intro w d;(try dsimp only at d);go_simp;(try with_reducible rfl);done)
       (try simp only[Act.put,List.setIfInBounds_toArray,bzS,List.set_cons_succ]);refine b6 (v:= ?_) 7 94 rfl rfl (by kernel_rfl) (fun _ _ _ h=>h) (by rfl) f ?_ ?_;rotate_left;focus (intro w d;(try dsimp only at d);go_simp;(try with_reducible rfl);done)
       (try simp only[Act.put,List.setIfInBounds_toArray,bzS,List.set_cons_succ]);refine b6 (v:= ?_) 8 95 rfl rfl (by kernel_rfl) (fun _ _ _ h=>h) (by rfl) f ?_ ?_;rotate_left;focus (intro w d;(try dsimp only at d);go_simp;(try with_reducible rfl);done)
       (try simp only[Act.put,List.setIfInBounds_toArray,bzS,List.set_cons_succ]);refine b6 (v:= ?_) 9 96 rfl rfl (by kernel_rfl) (fun _ _ _ h=>h) (by rfl) f ?_ ?_;rotate_left;focus (intro w d;(try dsimp only at d);go_simp;(try with_reducible rfl);done)
       (try simp only[Act.put,List.setIfInBounds_toArray,bzS,List.set_cons_succ]);refine b6 (v:= ?_) 10 97 rfl rfl (by kernel_rfl) (fun _ _ _ h=>h) (by rfl) f ?_ ?_;rotate_left;focus (intro w d;(try dsimp only at d);go_simp;(try with_reducible rfl);done)
       (try simp only[Act.put,List.setIfInBounds_toArray,bzS,List.set_cons_succ]);refine b6 (v:= ?_) 11 98 rfl rfl (by kernel_rfl) (fun _ _ _ h=>h) (by rfl) f ?_ ?_;rotate_left;focus (intro w d;(try dsimp only at d);go_simp;(try with_reducible rfl);done)
       (try simp only[Act.put,List.setIfInBounds_toArray,bzS,List.set_cons_succ]);refine b6 (v:= ?_) 12 99 rfl rfl (by kernel_rfl) (fun _ _ _ h=>h) (by rfl) f ?_ ?_;rotate_left;focus (intro w d;(try dsimp only at d);go_simp;(try with_reducible rfl);done)
       (try simp only[Act.put,List.setIfInBounds_toArray,bzS,List.set_cons_succ]);refine b6 (v:= ?_) 13 100 rfl rfl (by kernel_rfl) (fun _ _ _ h=>h) (by rfl) f ?_ ?_;rotate_left;focus (intro w d;(try dsimp only at d);go_simp;(try with_reducible rfl);done)
       (try simp only[Act.put,List.setIfInBounds_toArray,bzS,List.set_cons_succ]);refine b6 (v:= ?_) 14 101 rfl rfl (by kernel_rfl) (fun _ _ _ h=>h) (by rfl) f ?_ ?_;rotate_left;focus (intro w d;(try dsimp only at d);go_simp;(try with_reducible rfl);done)
       (try simp only[Act.put,List.setIfInBounds_toArray,bzS,List.set_cons_succ]);refine b6 (v:= ?_) 15 102 rfl rfl (by kernel_rfl) (fun _ _ _ h=>h) (by rfl) f ?_ ?_;rotate_left;focus (intro w d;(try dsimp only at d);go_simp;(try with_reducible rfl);done)
       (try simp only[Act.put,List.setIfInBounds_toArray,bzS,List.set_cons_succ]);refine wpAnyH_ready (rs:=[16]) (by kernel_rfl) (by simp) (AllReadyH.cons (o:=_) rfl (fun K m=> ?_) AllReadyH.nil);go_simp;(go_at_call 53;refine(a1 _ (bt.be aw) (hu.be aw)).mono ?_;rintro e4 U ⟨rfl,bo⟩;have J:Below E.1.size E U:=(aG E.1.size E).drew.trans (bo.mono aE));go_wp2_with fail;refine m.out _ _ (by(try dsimp only);(exact⟨(X.be J).k2,(J.cell (p:=⟨b,_,none⟩) a9).trans C,(J.cell (p:=⟨b,_,none⟩) a9).trans d3⟩)) (fun f=> ?_);clear m K;(try simp only[Act.put,List.setIfInBounds_toArray,bzS,List.set_cons_succ]);clear a1 bo aw;by_cases ho:0<ov;rotate_left
       ·have ae:pA (t.2.length:Int) ts j=false:=TL (u:=t') P.out.1 (.inr ⟨z2,bi.out,by rw[bh.out];exact ho⟩);obtain rfl:V=false:=HV.out.symm.trans (TR ah ae);have z6:ov<=0:=by omega
        clear ae;refine b6 (v:= ?_) 17 104 rfl rfl (by kernel_rfl) (fun _ _ _ h=>h) (by rfl) f ?_ ?_;rotate_left;focus (intro w d;(try dsimp only at d);go_simp;(try with_reducible rfl);done)
        (try simp only[Act.put,List.setIfInBounds_toArray,bzS,List.set_cons_succ]);refine b6 (v:= ?_) 18 105 rfl rfl (by kernel_rfl) (fun _ _ _ h=>h) (by rfl) f ?_ ?_;rotate_left;focus (intro w d;(try dsimp only at d);go_simp;(try with_reducible rfl);done)
        (try simp only[Act.put,List.setIfInBounds_toArray,bzS,List.set_cons_succ]);refine wpAnyH_done (by kernel_rfl) ?_ _;refine NoPanic.normal ?_;replace R:=R.be J;replace l:=aC l J;have cR:=R.g2;go_wp2_with fail;obtain⟨Z,F,B,G, -, -⟩:=R.st2 l (Nat.le_succ _) (fun k z e=>by cases e) (.int .i64 0) (.slice none 0 0);rw[F];exact aM (v:= .tuple #[.agg #[.int .i64 0,.slice none 0 0],.bool false]) (by simp[results,results42,go_sem,B.k2]) rfl ⟨_,_,_,_,rfl,(fun e=>Bool.noConfusion (show false=true from e)),G⟩
       have ae:pA (t.2.length:Int) ts j=true:=ezI P.out.1 bg.out (fun u h0 hu=>by
        rw[bi.out] at hu;injection hu with hu;rw[<-hu,bh.out];exact ho)
       have bf:=aB ae;have z6:¬ov<=0:=by omega
       clear ae;refine b6 (v:= ?_) 17 104 rfl rfl (by kernel_rfl) (fun _ _ _ h=>h) (by rfl) f ?_ ?_;rotate_left;focus (intro w d;(try dsimp only at d);go_simp;(try with_reducible rfl);done)
       (try simp only[Act.put,List.setIfInBounds_toArray,bzS,List.set_cons_succ]);refine b6 (v:= ?_) 18 105 rfl rfl (by kernel_rfl) (fun _ _ _ h=>h) (by rfl) f ?_ ?_;rotate_left;focus (intro w d;(try dsimp only at d);go_simp;(try with_reducible rfl);done)
       (try simp only[Act.put,List.setIfInBounds_toArray,bzS,List.set_cons_succ]);refine wpAnyH_done (by kernel_rfl) ?_ _;refine NoPanic.normal ?_;replace X:=X.be J;replace R:=R.be J;replace O:=O.be J;replace T:=T.be J;replace L:=L.be J;replace I:=I.be J;replace C:=(J.cell (p:=⟨b,y+j*2+1,none⟩) a9).trans C;replace l:=aC l J;clear cM;go_upto_region 17 with fail)
      all_goals (
       have ck:b<U.1.size:=aZ lb l.size;have M:Below U.1.size U U.drew:=(aG U.1.size U).drew;obtain⟨w5,e5,b7,Y⟩:=bI U.drew [.bool s1,.slice A1 k1 af,.bool s2,.slice A2 k2 ag,.slice Au t.2.length cu] 64;have ad:=M.trans (b7.mono aE);have X5:=X.be ad;have R5:=R.be ad;have O5:=O.be ad;have T5:=T.be ad;have b2:=I.be ad;have al:=(ad.cell (p:=⟨b,y+j*2+1,none⟩) ck).trans C;obtain⟨ba,hG,bn⟩:=L.be ad;have ax:=aC l ad;have b3:ba.length<=1073741824:=by rw[bn.1];unfold gV;rw[cH,bK];omega
       obtain⟨A0,c0,e0, -⟩:=hG.form;injection e0 with e01 e02 e03;have b4:W.1.size+1<=w5.1.size:=O5.lt;have co:w1.1.size<w5.1.size:=T5.lt;have cO:=O.g2;have b0:=O5.g2;have cn:=aB (And.intro e01 (And.intro e02 e03));clear e01 e02 e03 cO b0;refine wp_region_noPanic ?_;refine wp_region_held_drew (S:=(fun w'=>C4 w' w1.1.size (.bool s1) (.slice A1 k1 af) (.bool s2) (.slice A2 k2 ag)∧C2 w' w.1.size (.int .i64 (t.2.length:Int)) (.slice (some ⟨b,y,none⟩) ts.length c)∧w'.cell? ⟨b,y+j*2+1,none⟩=some (.slice Au t.2.length cu))) (by kernel_rfl) (by(try dsimp only);(exact⟨T.k4,X.k2,C⟩)) (fun f=> ?_);refine b6 (v:= ?_) 0 107 rfl rfl (by kernel_rfl) (fun _ _ _ h=>h) (by rfl) f ?_ ?_;rotate_left;focus (intro w d;(try dsimp only at d);go_simp;(try with_reducible rfl);done)
       (try simp only[Act.put,List.setIfInBounds_toArray,bzS,List.set_cons_succ]);refine b6 (v:= ?_) 2 109 rfl rfl (by kernel_rfl) (fun _ _ _ h=>h) (by rfl) f ?_ ?_;rotate_left;focus (intro w d;(try dsimp only at d);go_simp;(try with_reducible rfl);done)
       (try simp only[Act.put,List.setIfInBounds_toArray,bzS,List.set_cons_succ]);refine b6 (v:= ?_) 3 110 rfl rfl (by kernel_rfl) (fun _ _ _ h=>h) (by rfl) f ?_ ?_;rotate_left;focus (intro w d;(try dsimp only at d);go_simp;(try with_reducible rfl);done)
       (try simp only[Act.put,List.setIfInBounds_toArray,bzS,List.set_cons_succ]);refine b6 (v:= ?_) 4 111 rfl rfl (by kernel_rfl) (fun _ _ _ h=>h) (by rfl) f ?_ ?_;rotate_left;focus (intro w d;(try dsimp only at d);go_simp;(try with_reducible rfl);done)
       (try simp only[Act.put,List.setIfInBounds_toArray,bzS,List.set_cons_succ]);refine b6 (v:= ?_) 5 112 rfl rfl (by kernel_rfl) (fun _ _ _ h=>h) (by rfl) f ?_ ?_;rotate_left;focus (intro w d;(try dsimp only at d);go_simp;(try with_reducible rfl);done)
       (try simp only[Act.put,List.setIfInBounds_toArray,bzS,List.set_cons_succ]);refine b6 (v:= ?_) 6 113 rfl rfl (by kernel_rfl) (fun _ _ _ h=>h) (by rfl) f ?_ ?_;rotate_left;focus (intro w d;(try dsimp only at d);go_simp;(try with_reducible rfl);done)
       (try simp only[Act.put,List.setIfInBounds_toArray,bzS,List.set_cons_succ]);refine b6 (v:= ?_) 7 114 rfl rfl (by kernel_rfl) (fun _ _ _ h=>h) (by rfl) f ?_ ?_;rotate_left;focus (intro w d;(try dsimp only at d);go_simp;(try with_reducible rfl);done)
       (try simp only[Act.put,List.setIfInBounds_toArray,bzS,List.set_cons_succ]);refine b6 (v:= ?_) 8 115 rfl rfl (by kernel_rfl) (fun _ _ _ h=>h) (by rfl) f ?_ ?_;rotate_left;focus (intro w d;(try dsimp only at d);go_simp;(try with_reducible rfl);done)
       (try simp only[Act.put,List.setIfInBounds_toArray,bzS,List.set_cons_succ]);refine b6 (v:= ?_) 9 116 rfl rfl (by kernel_rfl) (fun _ _ _ h=>h) (by rfl) f ?_ ?_;rotate_left;focus (intro w d;(try dsimp only at d);go_simp;(try with_reducible rfl);done)
       (try simp only[Act.put,List.setIfInBounds_toArray,bzS,List.set_cons_succ]);refine wpAnyH_ready (rs:=[1,10]) (by kernel_rfl) (by simp) (AllReadyH.cons (o:=_) rfl (fun K m=> ?_) (AllReadyH.cons (o:=_) rfl (fun K m=> ?_) AllReadyH.nil))
       focus (
        have cO:C2 U.drew W.1.size (.int .i64 (t.2.length:Int)) (.slice At nt ct):=O.k2;go_simp;go_wp2_with fail;refine m.out _ _ (by(try dsimp only);(exact⟨T.k4,X.k2,C⟩)) (fun f=> ?_);clear m K;(try simp only[Act.put,List.setIfInBounds_toArray,bzS,List.set_cons_succ]);refine wpAnyH_ready (rs:=[10]) (by kernel_rfl) (by simp) (AllReadyH.cons (o:=_) rfl (fun K m=> ?_) AllReadyH.nil);go_simp;(try rw[e5]);go_wp2_with fail;refine m.out _ _ (by(try dsimp only);(exact⟨T5.k4,X5.k2,al⟩)) (fun f=> ?_);clear m K;(try simp only[Act.put,List.setIfInBounds_toArray,bzS,List.set_cons_succ]);skip)
       rotate_left
       focus (
        go_simp;(try rw[e5]);go_wp2_with fail;refine m.out _ _ (by(try dsimp only);(exact⟨T5.k4,X5.k2,al⟩)) (fun f=> ?_);clear m K;(try simp only[Act.put,List.setIfInBounds_toArray,bzS,List.set_cons_succ]);have cO:=O5.k2;refine wpAnyH_ready (rs:=[1]) (by kernel_rfl) (by simp) (AllReadyH.cons (o:=_) rfl (fun K m=> ?_) AllReadyH.nil);go_simp;go_wp2_with fail;refine m.out _ _ (by(try dsimp only);(exact⟨T5.k4,X5.k2,al⟩)) (fun f=> ?_);clear m K;(try simp only[Act.put,List.setIfInBounds_toArray,bzS,List.set_cons_succ]);skip)
       all_goals (
        refine wpAnyH_ready (rs:=[11]) (by kernel_rfl) (by simp) (AllReadyH.cons (o:=_) rfl (fun K m=> ?_) AllReadyH.nil);refine LB (by rfl) (by rfl) 64 5 88 _ underlying51 ez9 rfl ezA (by decide) (by decide) (by rfl) hG (by rfl) Y rfl (ezB _ _ _ _ _ _ _ _ _ _ _) b3 b4 ?_;intro v6 w6 av _ ay _;obtain⟨A6,n6,c6,ev⟩:∃A n c,v6= .slice A n c:=by
         obtain⟨A,c,e, -⟩:=av.form;exact⟨A,_,c,e⟩
        subst ev;have fr:∀g,(g<W.1.size+1∨wy.1.size<=g)->g<w5.1.size->w6.heap[g]? =w5.heap[g]? :=fun g hg hl=>ay.block g hl (fun e=>by have:=bs g e.symm;omega);have X6:Bx w6 w.1.size _ _:=(fr w.1.size (.inl (by omega)) X5.lt).trans X5;have B:Bx w6 (w.1.size+1) _ _:=(fr (w.1.size+1) (.inl (by omega)) R5.lt).trans R5;have O6:Bx w6 W.1.size _ _:=(fr W.1.size (.inl (by omega)) O5.lt).trans O5;have T6:Bx w6 w1.1.size _ _:=(fr w1.1.size (.inr cg) T5.lt).trans T5;have cl:b<w5.1.size:=aZ lb ax.size;have bk:=(World.cell?_of_block (a:=⟨b,y+j*2+1,none⟩) (fr b (.inl (by omega)) cl)).trans al;refine m.out _ _ (by(try dsimp only);(exact⟨T6.k4,X6.k2,bk⟩)) (fun f=> ?_);clear m K;(try simp only[Act.put,List.setIfInBounds_toArray,bzS,List.set_cons_succ]);have n1:W.1.size≠w1.1.size:=by omega
        have n2:W.1.size≠w.1.size:=by omega
        have n3:W.1.size≠b:=by omega
        have cO:=O6.g2;refine b6 (v:= ?_) 12 119 rfl rfl (by kernel_rfl) (fun _ _ _ h=>h) (by rfl) f ?_ ?_;rotate_left;focus (intro w d;(try dsimp only at d);go_simp;(try with_reducible rfl);done)
        (try simp only[Act.put,List.setIfInBounds_toArray,bzS,List.set_cons_succ]);refine wpAnyH_ready (rs:=[13]) (by kernel_rfl) (by simp) (AllReadyH.cons (o:=_) rfl (fun K m=> ?_) AllReadyH.nil);go_simp;refine m.out _ _ (by(try dsimp only);(exact⟨kK n1 T6.k4,fQ n2 X6.k2,(aL _ _ _ _ _ _ n3).trans bk⟩)) (fun f=> ?_);clear m K;(try simp only[Act.put,List.setIfInBounds_toArray,bzS,List.set_cons_succ]);refine wpAnyH_done (by kernel_rfl) ?_ _;refine NoPanic.normal ?_;have O9:=O6.set 1 (.slice A6 n6 c6);have X9:=X6.far 1 (.slice A6 n6 c6) n2;have R9:=B.far 1 (.slice A6 n6 c6) (show W.1.size≠w.1.size+1 by omega);have k9:=(K32.grown hG ay).trans (K32.put (O6.cell 1 rfl) (fun x e=>by cases e) (.slice A6 n6 c6));have T9:=bn.push k9 b2 a5;have G9:=av.kept (w':=w6.setCell ⟨W.1.size,1,none⟩ (.slice A6 n6 c6)) (fun g e=>Below.heap_setCell w6 ⟨W.1.size,1,none⟩ _ g (show g≠W.1.size by have:=(av.lt g e).1;omega));have b8:=(ax.trans (pT ay ax.size (fun g e=>by have:=(bs g e).1;omega))).setCell (p:=⟨W.1.size,1,none⟩) (show w.1.size<=W.1.size by omega) (.slice A6 n6 c6);have b1:gV (ts.take (j+1))=gV (ts.take j)++[(q,t.2)]:=by
         unfold gV;rw[Q9,P.out.1,aqO,aq7];show _=_++[(q,t.2)]
         simp[aq.out]
        rw[<-b1] at T9;generalize w6.setCell ⟨W.1.size,1,none⟩ (.slice A6 n6 c6)=w9 at *;go_wp2;go_roundg k
        case rel=>exact⟨j+1,A6,n6,c6,by have:=HJ.out;unfold Hid;omega,by go_num,⟨_,G9,T9⟩,fun i hi=>by
         rcases dE i j with h|h
         ·exact HI.out i h
         ·obtain rfl:i=j:=by omega
          exact bf.out,X9,R9,O9,b8⟩
        case measure=>omega))
def TesN(B:Nat)(w:World)(v:Value)(ts:List Te):Prop:=∃A c,v= .slice A ts.length c∧ts.length<=c∧(ts=[]∨∃b off,A=some ⟨b,off,none⟩∧B<=b∧b<w.1.size∧∀(i:Nat) (t:Te),ts[i]? =some t->∃a o n c,w.cell? ⟨b,off+i*2,none⟩=some (.string ⟨t.1.toArray⟩)∧w.cell? ⟨b,off+i*2+1,none⟩=some (.slice (some ⟨a,o,none⟩) n c)∧B<=a∧IntsAt w (.slice (some ⟨a,o,none⟩) n c) t.2)
section
variable {w w':World}{B:Nat}{v:Value}{ts:List Te}
def TesN.nil(B:Nat)(w:World)(A:Option Addr)(c:Nat):TesN B w (.slice A 0 c) []:=⟨A,c,rfl,dC _,.inl rfl⟩
def TesN.tes(h:TesN B w v ts):TesAt w v ts:=by
 obtain⟨A,c,hv,g,h⟩:=h;refine⟨A,c,hv,g,?_⟩;rcases h with h|⟨b,m,e, -,j,l⟩
 ·exact .inl h
 ·refine .inr ⟨b,m,e,j,fun i t k=> ?_⟩;obtain⟨p,o,n,c,a,d, -,f⟩:=l i t k;exact⟨_,a,d,f⟩
def TesN.form(h:TesN B w v ts):∃A c,v= .slice A ts.length c∧ts.length<=c:=by
 obtain⟨A,c,hv,a,h⟩:=h;exact⟨A,c,hv,a⟩
def TesN.lower(h:TesN B w v ts)(a:C<=B):TesN C w v ts:=by
 obtain⟨A,c,hv,m,h⟩:=h;refine⟨A,c,hv,m,?_⟩;rcases h with h|⟨b,s,e,l,p,r⟩
 ·exact .inl h
 ·refine .inr ⟨b,s,e,aH a l,p,fun i t q=> ?_⟩;obtain⟨d,o,n,c,f,g,j,k⟩:=r i t q;exact⟨d,o,n,c,f,g,aH a j,k⟩
def TesN.be(h:TesN B w v ts)(a:Below w.1.size w w'):TesN B w' v ts:=by
 obtain⟨A,c,hv,q,h⟩:=h;refine⟨A,c,hv,q,?_⟩;rcases h with h|⟨b,u,e,m,d,s⟩
 ·exact .inl h
 ·refine .inr ⟨b,u,e,m,aZ d a.size,fun i t r=> ?_⟩;obtain⟨f,o,n,c,g,j,k,l⟩:=s i t r;exact⟨f,o,n,c,(a.cell (p:=⟨b,_,none⟩) d).trans g,(a.cell (p:=⟨b,_,none⟩) d).trans j,k,l.be a⟩
def IntsAt.off(h:IntsAt w (.slice (some ⟨b,o,none⟩) n c) e){q:Nat}(p:g≠b)(v:Value):IntsAt (w.setCell ⟨g,q,none⟩ v) (.slice (some ⟨b,o,none⟩) n c) e:=by
 obtain⟨A,f,hv,j,d⟩:=h;refine⟨A,f,hv,j,?_⟩;injection hv with e1 e2 e3;subst e1;rcases d with d|⟨r,s,a,m,k⟩
 ·exact .inl d
 ·injection a with a;injection a with hb1 hb2;subst hb1 hb2;exact .inr ⟨_,_,rfl,by simpa using m,fun i l=>(aL _ _ _ _ _ _ p).trans (k i l)⟩
def TesN.far(h:TesN B w v ts)(C:g<B)(q:Nat)(x:Value):TesN B (w.setCell ⟨g,q,none⟩ x) v ts:=by
 obtain⟨A,c,hv,p,h⟩:=h;refine⟨A,c,hv,p,?_⟩;rcases h with h|⟨b,z,e,m,r,y⟩
 ·exact .inl h
 ·refine .inr ⟨b,z,e,m,by simpa using r,fun i t u=> ?_⟩;obtain⟨a,o,n,c,f,j,k,l⟩:=y i t u;have d:g≠b:=by omega
  have s:g≠a:=by omega
  exact⟨a,o,n,c,(aL _ _ _ _ _ _ d).trans f,(aL _ _ _ _ _ _ d).trans j,k,l.off s x⟩
end
def KM.grown{base:Nat}{e:TypeId}{rows:List (List Value)}(h:GrowD w base e n v rows)(f:w.grownBy w' v.ownBlock):KM w w':=⟨f.size,fun p k x a=>by
 by_cases b:v.ownBlock=some p.block
 ·rcases h.1.2 with ⟨rfl, -⟩|⟨o,cap,cur,rfl, -,g, -⟩
  ·simp[Value.ownBlock] at b
  ·simp[Value.ownBlock] at b;subst b;obtain⟨c,j,m⟩:=p;have i:m=none:=World.cell?_spot a;subst i;have d:w.heap[c]? =some (.cells cur _ (0,0)):=g;rw[cell_of_row w c j cur _ (0,0) d,<-Array.getElem?_toList] at a;exact absurd rfl (h.2.2 c rfl cur _ _ d _ (dG a) _ _)
 ·exact(World.cell?_of_block (f.block p.block (block_lt_of_cell a) (fun e=>b e.symm))).trans a⟩
def IntsAt.km(h:IntsAt w u e)(b:KM w w'):IntsAt w' u e:=by
 obtain⟨A,d,hv,g,a⟩:=h;refine⟨A,d,hv,g,?_⟩;rcases a with a|⟨c,n,f,m,j⟩
 ·exact .inl a
 ·exact .inr ⟨c,n,f,aZ m b.1,fun i k=>b.2 _ _ _ (j i k)⟩
def TeR(B:Nat)(w:World)(rows:List (List Value))(ts:List Te):Prop:=rows.length=ts.length∧∀(i:Nat) (t:Te),ts[i]? =some t->∃b o c,rows[i]? =some [.string ⟨t.1.toArray⟩,.slice (some ⟨b,o,none⟩) t.2.length c]∧B<=b∧IntsAt w (.slice (some ⟨b,o,none⟩) t.2.length c) t.2
def RowE(w:World)(base:Nat)(v:Value)(ts:List Te):Prop:=∃rows,GrowD w base 40 2 v rows∧TeR base w rows ts
section
variable {w w':World}{base:Nat}{v:Value}{ts:List Te}{rows:List (List Value)}
def TeR.km(h:TeR base w rows ts)(f:KM w w'):TeR base w' rows ts:=⟨h.1,fun i t g=>by
 obtain⟨b,o,c,a,e,d⟩:=h.2 i t g;exact⟨b,o,c,a,e,d.km f⟩⟩
def RowE.nil(w:World)(base:Nat):RowE w base (.slice none 0 0) []:=⟨[],GrowD.nil,rfl,fun i p h=>by simp at h⟩
def RowE.be(h:RowE w base v ts)(a:Below w.1.size w w'):RowE w' base v ts:=by
 obtain⟨rows,b,c⟩:=h;exact⟨rows,b.be a,c.km (KM.be a)⟩
def RowE.kept(h:RowE w base v ts)(c:KM w w')(d:∀g,v.ownBlock=some g->w'.heap[g]? =w.heap[g]?):RowE w' base v ts:=by
 obtain⟨rows,a,b⟩:=h;exact⟨rows,a.kept d,b.km c⟩
def RowE.lt(h:RowE w base v ts):∀g,v.ownBlock=some g->base<=g∧g<w.1.size:=by
 obtain⟨rows,a,b⟩:=h;exact a.lt
def RowE.form(h:RowE w base v ts):∃A c,v= .slice A ts.length c∧ts.length<=c:=by
 obtain⟨rows,b,d⟩:=h;obtain⟨A,c,e,a⟩:=b.form;rw[d.1] at e a;exact⟨A,c,e,a⟩
def TeR.push(h:TeR base w rows ts)(f:KM w w')(p:base<=b)(r:IntsAt w (.slice (some ⟨b,o,none⟩) e.length c) e):TeR base w' (rows++[[.string ⟨x.toArray⟩,.slice (some ⟨b,o,none⟩) e.length c]]) (ts++[(x,e)]):=by
 refine⟨by rw[bN,bN,h.1];rfl,fun i t a=> ?_⟩;by_cases d:i<ts.length
 ·rw[gA d] at a;obtain⟨g,s,j,k,m,n⟩:=h.2 i t a;exact⟨g,s,j,by rw[gA (by rw[h.1];exact d)];exact k,m,n.km f⟩
 ·have q:=(List.getElem?_eq_some_iff.1 a).1;rw[bN,iJ] at q;have d:i=ts.length:=by omega
  subst d;rw[fK aE,azV] at a;injection a with a;subst a;exact⟨b,o,c,by rw[fK (by rw[h.1];exact aE),h.1,azV];rfl,p,r.km f⟩
def RowE.tesN(h:RowE w base v ts):TesN base w v ts:=by
 obtain⟨A,c,rfl,n⟩:=h.form;refine⟨A,c,rfl,n,?_⟩;cases ts with
 |nil=>exact .inl rfl
 |cons s r=>
  right;obtain⟨rows,d,e⟩:=h;obtain⟨x,C,z,g, -, -⟩:=e.2 0 s rfl;obtain⟨b,rfl,k,p, -⟩:=d.at_ g;refine⟨b,0,rfl,k,p,fun i t q=> ?_⟩;obtain⟨y,D,B,j,m,o⟩:=e.2 i t q;obtain⟨u,a, -, -,f⟩:=d.at_ j;injection a with a;injection a with a;subst a;rw[bA];exact⟨_,_,_,_,f 0 _ rfl,f 1 _ rfl,m,o⟩
end
def fzP:(Tryz.prog.info? 3).map (fun i=>(i.zero,i.size,i.bytes))=some (some (.int .i64 0),1,8):=by kernel_rfl
def fxJ{V:Array Oper}{o:Oper}{a:Act}{K:Act->World->Prop}{Q:Exit->Act->World->Prop}{E:Prop}(L:o.guard=none){s x:Operand}(N:o.op= .call { callee:= .builtin .append,args:= #[s,x],argTypes:= #[38,38] })
  (O:a.eval s= .slice (some ⟨g,0,none⟩) 0 0)(R:a.eval x= .slice B m c)(f:IntsAt w (.slice B m c) e)(k:1<=m)(Y:m<=1024)
  (h:∀g' c' w',w.1.size<=g'->IntsAt w' (.slice (some ⟨g',0,none⟩) m c') e->Below w.1.size w w'->K (a.put o.dst (.slice (some ⟨g',0,none⟩) m c')) w'):if Region.wanted o (yielded V a.tmps)=true then Oper.wp prog o a w K Q else E:=by
 obtain⟨i,p,S,T,U⟩:=info_parts fzP;obtain⟨W,c',hv,X,q⟩:=f;injection hv with e1 e2 e3;subst e1 e2 e3;obtain⟨b,d,rfl,Z,I⟩:∃b d,B=some ⟨b,d,none⟩∧b<w.1.size∧Cells .i64 w b d e:=by
  rcases q with q|⟨b,d,k,D,F⟩
  ·rw[q] at k;simp at k
  ·exact⟨b,d,k,D,F⟩
 refine step_append_grows L s x 38 N 3 i _ 1 8 underlying38 p S T U rfl (by decide) (some ⟨g,0,none⟩) 0 0 [] O (fun h=>by cases h) rfl (fun _ _ j u f=>by simp at f) ⟨b,d,none⟩ e.length c (e.map (Value.int .i64)) R (by rw[cH,az9]) (fun j u f=> ?_) (ints_oneCell .i64 e) (by omega) (by unfold maxLen;omega) (by omega) fun v' w' z J=> ?_
 ·have:=I.vc j u f;unfold Addr.add;split
  ·rename_i t;subst t;simpa using this
  ·exact this
 ·rw[bA,iM] at z;have H:Below w.1.size w w':=pT J aE (fun g h=>by cases h);rcases z.2 with ⟨-,t⟩|⟨r,A,C,rfl,G,y,M, -, -,P⟩
  ·omega
  ·refine h r A w' G ⟨_,_,rfl,M,Rd.mk (Array.getElem?_eq_some_iff.1 y).1 fun i p=> ?_⟩ H;rw[bA,cell_of_row w' r _ C 3 (0,0) y,<-Array.getElem?_toList];have n:(e.map (Value.int .i64))[i]? =some (.int .i64 (e.getD i 0)):=by
    rw[iK,aR p,eF,aR p];rfl
   rw[<-P,fC] at n;split at n
   ·exact n
   ·cases n
def fxK(n:Nat):∀y∈Builtin.zeroCells (Value.agg #[.string ⟨#[]⟩,.slice none 0 0]).cells n,NoInt y:=fun y b=>by
 unfold Builtin.zeroCells at b;obtain⟨j,_,rfl⟩:=Array.mem_map.1 b;have a:(Value.agg #[.string ⟨#[]⟩,.slice none 0 0]).cells= #[Value.string ⟨#[]⟩,.slice none 0 0]:=rfl;rw[a];have a:(#[Value.string ⟨#[]⟩,.slice none 0 0]:Array Value).size=2:=rfl;rw[a];rcases(show j%2=0∨j%2=1 by omega) with h|h<;>rw[h]
 ·exact NoInt.string _
 ·exact NoInt.slice _ _ _
def fxL(s:ByteArray)(A:Option Addr)(k c:Nat):∀u∈([.string s,.slice A k c]:List Value),NoInt u∧u.oneCell'=true:=fun u a=>by
 simp only[List.mem_cons,List.not_mem_nil,or_false] at a;rcases a with rfl|rfl
 ·exact⟨NoInt.string _,rfl⟩
 ·exact⟨NoInt.slice _ _ _,rfl⟩
def TAt(w0 w:World)(b o:Nat)(t:TQ):Prop:=∃j a h e k c i f d g,(w.cell? ⟨b,o,none⟩=some (.bool j)∧w.cell? ⟨b,o+1,none⟩=some (.slice a h e)∧w.cell? ⟨b,o+2,none⟩=some (.bool k)∧w.cell? ⟨b,o+3,none⟩=some (.slice c i f)∧w.cell? ⟨b,o+4,none⟩=some (.slice d t.2.length g))∧NQ w (.agg #[.bool j,.slice a h e,.bool k,.slice c i f]) t.1∧IntsAt w0 (.slice d t.2.length g) t.2
def TsR(w0 w:World)(v:Value)(l:List TQ):Prop:=∃A c,v= .slice A l.length c∧l.length<=c∧(l=[]∨∃b off,A=some ⟨b,off,none⟩∧b<w.1.size∧∀(i:Nat) (t:TQ),l[i]? =some t->TAt w0 w b (off+i*5) t)
section
variable {w0 w w':World}{base:Nat}{v:Value}{l:List TQ}
def TAt.be{t:TQ}(h:TAt w0 w b o t)(s:b<w.1.size)(c:Below w.1.size w w'):TAt w0 w' b o t:=by
 obtain⟨A,d,y,g,B,e,z,i,f,j,⟨k,m,n,q,r⟩,u,x⟩:=h;have a:=fun (o:Nat)=>c.cell (p:=⟨b,o,none⟩) s;exact⟨A,d,y,g,B,e,z,i,f,j,⟨(a _).trans k,(a _).trans m,(a _).trans n,(a _).trans q,(a _).trans r⟩,u.k32 (K32.be c),x⟩
def TsR.be(h:TsR w0 w v l)(a:Below w.1.size w w'):TsR w0 w' v l:=by
 obtain⟨A,c,hv,f,h⟩:=h;refine⟨A,c,hv,f,?_⟩;rcases h with h|⟨b,k,e,d,j⟩
 ·exact .inl h
 ·exact .inr ⟨b,k,e,aZ d a.size,fun i t g=>(j i t g).be d a⟩
def TsR.form(h:TsR w0 w v l):∃A c,v= .slice A l.length c∧l.length<=c:=by
 obtain⟨A,c,hv,a,_⟩:=h;exact⟨A,c,hv,a⟩
def TsR.at_(h:TsR w0 w (.slice A n c) l){t:TQ}(hi:l[i]? =some t):∃b off,A=some ⟨b,off,none⟩∧b<w.1.size∧TAt w0 w b (off+i*5) t:=by
 obtain⟨f,g,hv,j,h⟩:=h;injection hv with e1 e2 e3;subst e1;rcases h with h|⟨b,off,e,a,d⟩
 ·rw[h] at hi;simp at hi
 ·exact⟨b,off,e,a,d i t hi⟩
def TsR.get{off:Nat}(h:TsR w0 w (.slice (some ⟨b,off,none⟩) n c) l){t:TQ}(hi:l[i]? =some t):b<w.1.size∧TAt w0 w b (off+i*5) t:=by
 obtain⟨f,g,e,a,d⟩:=h.at_ hi;injection e with e;injection e with e1 e2;subst e1 e2;exact⟨a,d⟩
def TsR.take(h:TsR w0 w (.slice A n c) l)(g:m<=l.length):TsR w0 w (.slice A m c) (l.take m):=by
 obtain⟨o,p,hv,q,h⟩:=h;injection hv with e1 e2 e3;subst e1 e2 e3;have d:(l.take m).length=m:=by rw[bK];exact y8 g
 refine⟨A,c,by rw[d],by rw[d];omega,?_⟩;rcases h with h|⟨b,k,e,f,j⟩
 ·exact .inl (by rw[h];exact List.take_nil)
 ·refine .inr ⟨b,k,e,f,fun i t a=>j i t ?_⟩;rw[fC] at a;split at a
  ·exact a
  ·cases a
def TsR.drop{off:Nat}(h:TsR w0 w (.slice (some ⟨b,off,none⟩) n c) l)(o:m<=l.length):TsR w0 w (.slice (some ⟨b,off+m*5,none⟩) (n-m) (c-m)) (l.drop m):=by
 obtain⟨g,j,hv,k,h⟩:=h;injection hv with e1 e2 e3;subst e1 e2 e3;refine⟨_,_,by rw[gG],by rw[gG];omega,?_⟩;rcases h with h|⟨b,off,e,d,f⟩
 ·exact .inl (by rw[h];exact List.drop_nil)
 ·injection e with e;injection e with e1 e2;subst e1 e2;refine .inr ⟨_,_,rfl,d,fun i t a=> ?_⟩;rw[aqM] at a;rw[show _+m*5+i*5=_+(m+i)*5 by rw[aqA,bxE]];exact f _ t a
def RowT.tsR(h:RowT w0 w base v l):TsR w0 w v l:=by
 obtain⟨A,c,rfl,u⟩:=h.form;refine⟨A,c,rfl,u,?_⟩;cases l with
 |nil=>exact .inl rfl
 |cons D r=>
  right;obtain⟨b,q,a,o,g,s,d,p,j,f,k,m, -,y, -⟩:=h.at_ (i:=0) (t:=D) rfl;refine⟨b,0,m,y,fun i t B=> ?_⟩;obtain⟨E,q,a,o,g,s,d,p,j,f,k,n, -, -,x,z,C⟩:=h.at_ B;rw[m] at n;injection n with e;injection e with e;subst e;rw[bA];exact⟨q,a,o,g,s,d,p,j,f,k,x,z,C⟩
end
