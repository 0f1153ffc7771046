/- Laws. -/
import Derived.Test.YtmiaanioldpfgaaGreatDoorX12
import Derived.OwnWalk
set_option linter.all false
set_option maxHeartbeats 8000000
set_option maxRecDepth 99999
namespace Go.Proofs.YtmiaanioldpfgaaGreatDoor
open Go.RowKit Sos Tryz
def ezC:(Tryz.prog.info? 109).map (fun i=>(i.zero,i.size,i.bytes))=some (some (.agg #[.int .i64 0,.int .i64 0,.int .i64 0,.int .i64 0,.int .i64 0,.int .i64 0,.bool false,.slice none 0 0,.bool false,.slice none 0 0]),10,112):=by kernel_rfl
def ERow(w:World)(base:Nat)(v:Value)(n:Nat):Prop:=∃xs,w.ownsRow base 109 10 v n xs
section
variable {w w':World}{base n:Nat}{v:Value}
def ERow.form(h:ERow w base v n):∃A c,v= .slice A n c:=by
 obtain⟨d,h⟩:=h;rcases h.2 with ⟨rfl,rfl⟩|⟨g,a,b,rfl, -⟩
 ·exact⟨none,0,rfl⟩
 ·exact⟨_,a,rfl⟩
def ERow.own(h:ERow w base v n):∀g,v.ownBlock=some g->base<=g∧g<w.1.size:=fun g e=>by
 obtain⟨xs,h⟩:=h;rcases h.2 with ⟨rfl,rfl⟩|⟨c,cap,cur,rfl,a,b, -⟩
 ·simp[Value.ownBlock] at e
 ·simp[Value.ownBlock] at e;subst e;exact⟨a,(Array.getElem?_eq_some_iff.1 b).1⟩
def ERow.be(h:ERow w base v n)(e:Below w.1.size w w'):ERow w' base v n:=by
 have g:=h.own;obtain⟨i,h⟩:=h;refine⟨i,h.1,?_⟩;rcases h.2 with h|⟨a,b,c,rfl,d,f,h⟩
 ·exact .inl h
 ·exact .inr ⟨a,b,c,rfl,d,(e.block a (g a rfl).2).trans f,h⟩
def pT{B:Nat}{o:Option Nat}(a:w.grownBy w' o)(c:B<=w.1.size)(b:∀g,o=some g->B<=g):Below B w w':=
 ⟨a.os,a.tape,a.output,a.size,fun k d=>a.block k (by omega) (fun e=>by have:=b k e.symm;omega)⟩
end
def fxM(j k l m o p:Int)(h i:Bool)(b c:Option Addr)(f d g e:Nat):∀u∈([.int .i64 j,.int .i64 k,.int .i64 l,.int .i64 m,.int .i64 o,.int .i64 p,.bool h,.slice b f d,.bool i,.slice c g e]:List Value),u.oneCell'=true:=fun u a=>by
 simp only[List.mem_cons,List.not_mem_nil,or_false] at a;rcases a with rfl|rfl|rfl|rfl|rfl|rfl|rfl|rfl|rfl|rfl<;>rfl
def ezY(w:World)(b:Bool)(e:Ending)(w':World):Prop:=∃A n c,e= .returned (.tuple #[.slice A n c,.bool b])∧Below w.1.size w w'
structure PolyOk(vars:Int)(ts:List Te):Prop where
 v:i64 vars
 len:ts.length<=1073741824
 txt:∀t∈ts,t.1.length<=1073741824
 one:∀t∈ts,∀q,cG t.1=some q->RL 1 q
 ex:∀t∈ts,∀x∈t.2,i64 x
def ezZ{vars:Int}{t:Te}(h:p4 vars t=true)(c:vars<=6):Ex t.2:=by
 obtain⟨-,b,a⟩:=Y9 h;exact⟨by omega,a⟩
def fzR(vars:Int)(ts:List Te)(v:Value)(w:World)(hG:Glob w)(hv:TesAt w v ts)(ok:PolyOk vars ts)(hl:ts.length<=4096):
  Calls prog 88 #[.agg #[.int .i64 vars,v]] w (ezY w (decide (0<=vars∧vars<=6)&&I5 vars ts)):=by
 obtain⟨A,c,rfl,hc⟩:=hv.form;have OK:=aB ok;obtain⟨bn,bo⟩:=ok.v;clear ok;obtain⟨H,ae⟩:∃H,decide (0<=vars∧vars<=6)=H:=⟨_,rfl⟩;obtain⟨V,hV⟩:∃V,I5 vars ts=V:=⟨_,rfl⟩;rw[ae,hV];have ad:=aB ae;have HV:=aB hV;clear ae hV;obtain⟨W,D,f,X⟩:=bI w [.int .i64 vars,.slice A ts.length c] 24;have J:=X.g2;by_cases h0:vars<0
 ·have y:decide (0<=vars∧vars<=6)=false:=decide_eq_false (by omega);obtain rfl:false=H:=y.symm.trans ad.out;clear y;go_enter func88,ntmps88;go_wp2_with fail;(try rw[D]);clear D;go_ret2;exact⟨_,_,_,rfl,f⟩
 by_cases h6:6<vars
 ·have y:decide (0<=vars∧vars<=6)=false:=decide_eq_false (by omega);obtain rfl:false=H:=y.symm.trans ad.out;clear y;go_enter func88,ntmps88;go_wp2_with fail;(try rw[D]);clear D;go_ret2;exact⟨_,_,_,rfl,f⟩
 have y:decide (0<=vars∧vars<=6)=true:=decide_eq_true (by omega);obtain rfl:true=H:=y.symm.trans ad.out;clear y;obtain⟨ie,bb,a9,ba,az⟩:=info_parts ezC;have ay:ie.bytes*ts.length<=281474976710656:=by rw[az];omega
 have a5:ts.length<=maxLen:=by unfold maxLen;omega
 have HB:=aB (And.intro ay a5);clear ay a5 az;go_enter func88,ntmps88;have lX:=X.lt;have ax:w.1.size+1<=W.1.size:=lX;go_upto_region 3 with fail;(try rw[D]);clear D;go_wp2_with (at_make;refine wpList_make_own _ rfl _ _ 92 rfl (w.1.size+1) 109 ie _ 10 underlying92 bb a9 ba .i64 .i64 _ ts.length rfl rfl rfl HB.out.1 HB.out.2 ax ?_;intro w1 a7 a2;have ah:=pT a2 (mC W.1.size) (fun _ h=>by cases h);replace X:=X.be ah;have J:=X.g2);replace f:=aC f ah;have bi:=ah.size;go_loopg [4,24] ts.length (fun k vt vi wr=>∃j:Nat,Hid (j+k=ts.length)∧vi= .int .i64 j∧ERow wr (w.1.size+1) vt j∧Hid (∀i<j,pA vars ts i=true)∧Bx wr w.1.size [.int .i64 vars,.slice A ts.length c] 24∧Below w.1.size w wr)
 case atStart=>exact⟨0,by unfold Hid;omega,rfl,⟨_,a7⟩,fun i hi=>by omega,X,f⟩
 case round=>
  clear a7 a2 X f bi J ax lX;obtain⟨j,HJ,rfl,m,HI,X,f⟩:=hrel;obtain⟨Ar,cr,rfl⟩:=m.form;generalize wr=wy at *;replace hv:=hv.be f;have J:=X.g2;have br:(0:Int)<=(j:Int):=by omega
  cases gk with
  |zero=>
   have hj:j=ts.length:=HJ.out;have bj:V=true:=by
    rw[<-HV.out,ezG];intro i hi;exact HI.out i (by omega)
   subst bj hj;go_wp2;go_ret2;exact⟨_,_,_,rfl,f⟩
  |succ k=>
   have ai:j<ts.length:=by have:=HJ.out;omega
   have q1:(j:Int)<(ts.length:Int):=by omega
   obtain⟨t,ht⟩:∃t,ts[j]? =some t:=⟨_,aR ai⟩;have L:=dG ht;obtain⟨b,am,u,rfl,lb,B,C,l⟩:=hv.at_ ht;obtain⟨Au,cu,rfl,bp⟩:=l.form;have ab:=fun W h l=>fzU vars t (.slice Au t.2.length cu) W h l (OK.out.txt t L) (OK.out.ex t L) ⟨bn,bo⟩ (by omega) (OK.out.one t L);unfold eqN at ab;have HT:=aB (And.intro ht L);obtain⟨O,hO⟩:∃O,p4 vars t=O:=⟨_,rfl⟩;rw[hO] at ab;have I:=aB hO;clear ht L hO;go_upto_region 7 with fail;obtain⟨w2,e2,E,P⟩:=bI wy [.string ⟨t.1.toArray⟩,.slice Au t.2.length cu] 40;(try rw[e2]);clear e2;replace X:=X.be E;replace hv:=hv.be E;replace l:=l.be E;replace m:=m.be E;replace f:=aC f E;have J:=aa X.g2 P.g2;go_wp2_with fail;refine(ab _ (hG.be f) l).mono ?_;rintro e3 w3 ⟨Z,x1,x2,x3,x4,x5,R,F,M,B,U,G,N,C,rfl,af⟩;obtain⟨q,e4,av,T⟩:=bI w3 [.int .i64 Z,.int .i64 x1,.int .i64 x2,.int .i64 x3,.int .i64 x4,.int .i64 x5,.bool R,.slice F M B,.bool U,.slice G N C] 109;have z:=aC af av;replace X:=X.be z;replace P:=P.be z;replace hv:=hv.be z;replace l:=l.be z;replace m:=m.be z;replace f:=aC f z;have J:=aa X.g2 (aa P.g2 T.g10);clear ab af av z E;go_upto_region 8 with fail;(try rw[e4]);clear e4;cases O with
   |false=>
    have r:pA vars ts j=false:=TL (u:=t) HT.out.1 (.inl I.out);obtain rfl:V=false:=HV.out.symm.trans (TR ai r);clear r;refine wp_region_noPanic ?_;refine wp_region_held_drew (S:=(fun w'=>True)) (by kernel_rfl) (by(try dsimp only);skip) (fun d=> ?_);refine b6 (v:= ?_) 0 36 rfl rfl (by kernel_rfl) (fun _ _ _ h=>h) (by rfl) d ?_ ?_;rotate_left;focus (intro w a;(try dsimp only at a);go_simp;(try with_reducible rfl);done)
    (try simp only[Act.put,List.setIfInBounds_toArray,bzS,List.set_cons_succ]);refine b6 (v:= ?_) 1 37 rfl rfl (by kernel_rfl) (fun _ _ _ h=>h) (by rfl) d ?_ ?_;rotate_left;focus (intro w a;(try dsimp only at a);go_simp;(try with_reducible rfl);done)
    (try simp only[Act.put,List.setIfInBounds_toArray,bzS,List.set_cons_succ]);refine b6 (v:= ?_) 2 38 rfl rfl (by kernel_rfl) (fun _ _ _ h=>h) (by rfl) d ?_ ?_;rotate_left;focus (intro w a;(try dsimp only at a);go_simp;(try with_reducible rfl);done)
    (try simp only[Act.put,List.setIfInBounds_toArray,bzS,List.set_cons_succ]);refine tE 3 39 (by kernel_rfl) (fun _ _ _ h=>h) d ?_;(try simp only[Act.put,List.setIfInBounds_toArray,bzS,List.set_cons_succ]);refine tE 4 40 (by kernel_rfl) (fun _ _ _ h=>h) d ?_;(try simp only[Act.put,List.setIfInBounds_toArray,bzS,List.set_cons_succ]);refine tE 5 41 (by kernel_rfl) (fun _ _ _ h=>h) d ?_;(try simp only[Act.put,List.setIfInBounds_toArray,bzS,List.set_cons_succ]);refine tE 6 42 (by kernel_rfl) (fun _ _ _ h=>h) d ?_;(try simp only[Act.put,List.setIfInBounds_toArray,bzS,List.set_cons_succ]);refine tE 7 43 (by kernel_rfl) (fun _ _ _ h=>h) d ?_;(try simp only[Act.put,List.setIfInBounds_toArray,bzS,List.set_cons_succ]);refine tE 8 44 (by kernel_rfl) (fun _ _ _ h=>h) d ?_;(try simp only[Act.put,List.setIfInBounds_toArray,bzS,List.set_cons_succ]);refine tE 9 45 (by kernel_rfl) (fun _ _ _ h=>h) d ?_;(try simp only[Act.put,List.setIfInBounds_toArray,bzS,List.set_cons_succ]);refine tE 10 46 (by kernel_rfl) (fun _ _ _ h=>h) d ?_;(try simp only[Act.put,List.setIfInBounds_toArray,bzS,List.set_cons_succ]);refine tE 11 47 (by kernel_rfl) (fun _ _ _ h=>h) d ?_;(try simp only[Act.put,List.setIfInBounds_toArray,bzS,List.set_cons_succ]);refine tE 12 48 (by kernel_rfl) (fun _ _ _ h=>h) d ?_;(try simp only[Act.put,List.setIfInBounds_toArray,bzS,List.set_cons_succ]);refine tE 13 49 (by kernel_rfl) (fun _ _ _ h=>h) d ?_;(try simp only[Act.put,List.setIfInBounds_toArray,bzS,List.set_cons_succ]);refine tE 14 50 (by kernel_rfl) (fun _ _ _ h=>h) d ?_;(try simp only[Act.put,List.setIfInBounds_toArray,bzS,List.set_cons_succ]);refine tE 15 51 (by kernel_rfl) (fun _ _ _ h=>h) d ?_;(try simp only[Act.put,List.setIfInBounds_toArray,bzS,List.set_cons_succ]);refine tE 16 52 (by kernel_rfl) (fun _ _ _ h=>h) d ?_;(try simp only[Act.put,List.setIfInBounds_toArray,bzS,List.set_cons_succ]);refine tE 17 53 (by kernel_rfl) (fun _ _ _ h=>h) d ?_;(try simp only[Act.put,List.setIfInBounds_toArray,bzS,List.set_cons_succ]);refine b6 (v:= ?_) 18 54 rfl rfl (by kernel_rfl) (fun _ _ _ h=>h) (by rfl) d ?_ ?_;rotate_left;focus (intro w a;(try dsimp only at a);go_simp;(try with_reducible rfl);done)
    (try simp only[Act.put,List.setIfInBounds_toArray,bzS,List.set_cons_succ]);refine wpAnyH_done (by kernel_rfl) ?_ _;refine NoPanic.normal ?_;go_wp2;go_ret2;exact⟨_,_,_,rfl,f.drew⟩
   |true=>
    have a0:=ezZ I.out (by omega);by_cases hz:j=0
    focus (
     have r:pA vars ts j=true:=ezI HT.out.1 I.out (fun u h0 _=>by omega);have ao:=aB r;have z1:¬(0:Int)<(j:Int):=by omega
     have z2:¬0<j:=by omega
     clear r hz;refine wp_region_noPanic ?_;refine wp_region_held_drew (S:=(fun w'=>True)) (by kernel_rfl) (by(try dsimp only);skip) (fun d=> ?_);refine b6 (v:= ?_) 0 36 rfl rfl (by kernel_rfl) (fun _ _ _ h=>h) (by rfl) d ?_ ?_;rotate_left;focus (intro w a;(try dsimp only at a);go_simp;(try with_reducible rfl);done)
     (try simp only[Act.put,List.setIfInBounds_toArray,bzS,List.set_cons_succ]);refine b6 (v:= ?_) 1 37 rfl rfl (by kernel_rfl) (fun _ _ _ h=>h) (by rfl) d ?_ ?_;rotate_left;focus (intro w a;(try dsimp only at a);go_simp;(try with_reducible rfl);done)
     (try simp only[Act.put,List.setIfInBounds_toArray,bzS,List.set_cons_succ]);refine b6 (v:= ?_) 2 38 rfl rfl (by kernel_rfl) (fun _ _ _ h=>h) (by rfl) d ?_ ?_;rotate_left;focus (intro w a;(try dsimp only at a);go_simp;(try with_reducible rfl);done)
     (try simp only[Act.put,List.setIfInBounds_toArray,bzS,List.set_cons_succ]);refine b6 (v:= ?_) 3 39 rfl rfl (by kernel_rfl) (fun _ _ _ h=>h) (by rfl) d ?_ ?_;rotate_left;focus (intro w a;(try dsimp only at a);go_simp;(try with_reducible rfl);done)
     (try simp only[Act.put,List.setIfInBounds_toArray,bzS,List.set_cons_succ]);refine b6 (v:= ?_) 4 40 rfl rfl (by kernel_rfl) (fun _ _ _ h=>h) (by rfl) d ?_ ?_;rotate_left;focus (intro w a;(try dsimp only at a);go_simp;(try with_reducible rfl);done)
     (try simp only[Act.put,List.setIfInBounds_toArray,bzS,List.set_cons_succ]);refine b6 (v:= ?_) 5 41 rfl rfl (by kernel_rfl) (fun _ _ _ h=>h) (by rfl) d ?_ ?_;rotate_left;focus (intro w a;(try dsimp only at a);go_simp;(try with_reducible rfl);done)
     (try simp only[Act.put,List.setIfInBounds_toArray,bzS,List.set_cons_succ]);refine tE 6 42 (by kernel_rfl) (fun _ _ _ h=>h) d ?_;(try simp only[Act.put,List.setIfInBounds_toArray,bzS,List.set_cons_succ]);refine tE 7 43 (by kernel_rfl) (fun _ _ _ h=>h) d ?_;(try simp only[Act.put,List.setIfInBounds_toArray,bzS,List.set_cons_succ]);refine tE 8 44 (by kernel_rfl) (fun _ _ _ h=>h) d ?_;(try simp only[Act.put,List.setIfInBounds_toArray,bzS,List.set_cons_succ]);refine tE 9 45 (by kernel_rfl) (fun _ _ _ h=>h) d ?_;(try simp only[Act.put,List.setIfInBounds_toArray,bzS,List.set_cons_succ]);refine tE 10 46 (by kernel_rfl) (fun _ _ _ h=>h) d ?_;(try simp only[Act.put,List.setIfInBounds_toArray,bzS,List.set_cons_succ]);refine tE 11 47 (by kernel_rfl) (fun _ _ _ h=>h) d ?_;(try simp only[Act.put,List.setIfInBounds_toArray,bzS,List.set_cons_succ]);refine tE 12 48 (by kernel_rfl) (fun _ _ _ h=>h) d ?_;(try simp only[Act.put,List.setIfInBounds_toArray,bzS,List.set_cons_succ]);refine tE 13 49 (by kernel_rfl) (fun _ _ _ h=>h) d ?_;(try simp only[Act.put,List.setIfInBounds_toArray,bzS,List.set_cons_succ]);refine tE 14 50 (by kernel_rfl) (fun _ _ _ h=>h) d ?_;(try simp only[Act.put,List.setIfInBounds_toArray,bzS,List.set_cons_succ]);refine tE 15 51 (by kernel_rfl) (fun _ _ _ h=>h) d ?_;(try simp only[Act.put,List.setIfInBounds_toArray,bzS,List.set_cons_succ]);refine tE 16 52 (by kernel_rfl) (fun _ _ _ h=>h) d ?_;(try simp only[Act.put,List.setIfInBounds_toArray,bzS,List.set_cons_succ]);refine b6 (v:= ?_) 17 53 rfl rfl (by kernel_rfl) (fun _ _ _ h=>h) (by rfl) d ?_ ?_;rotate_left;focus (intro w a;(try dsimp only at a);go_simp;(try with_reducible rfl);done)
     (try simp only[Act.put,List.setIfInBounds_toArray,bzS,List.set_cons_succ]);refine b6 (v:= ?_) 18 54 rfl rfl (by kernel_rfl) (fun _ _ _ h=>h) (by rfl) d ?_ ?_;rotate_left;focus (intro w a;(try dsimp only at a);go_simp;(try with_reducible rfl);done)
     (try simp only[Act.put,List.setIfInBounds_toArray,bzS,List.set_cons_succ]);refine wpAnyH_done (by kernel_rfl) ?_ _;refine NoPanic.normal ?_;replace f:=f.drew;replace X:Bx q.drew w.1.size [.int .i64 vars,.slice (some ⟨b,am,none⟩) ts.length c] 24:=X;replace T:Bx q.drew w3.1.size [.int .i64 Z,.int .i64 x1,.int .i64 x2,.int .i64 x3,.int .i64 x4,.int .i64 x5,.bool R,.slice F M B,.bool U,.slice G N C] 109:=T;replace m:=m.be (aG q.1.size q).drew;go_upto_region 10 with fail;generalize q.drew=w5 at *)
    rotate_left
    focus (
     obtain⟨s,ac⟩:∃s,ts[j-1]? =some s:=⟨_,aR (by omega)⟩;obtain⟨b',bs,u',e',bm, -,ar,a8⟩:=hv.at_ ac;injection e' with e';injection e' with ea eb;subst ea eb;obtain⟨an,au,rfl,bq⟩:=a8.form;have aj:p4 vars s=true:=(ezH (HI.out (j-1) (by omega)) ac).1;have a1:=ezZ aj (by omega);have a4:s.2.length=t.2.length:=by
      have h1:=(Y9 aj).2.1;have h2:=(Y9 I.out).2.1;omega
     have ak:=fun W h h'=>fzV s.2 t.2 (.slice an s.2.length au) (.slice Au t.2.length cu) W h h' a4 a1 a0;have aq:=aB ac;have z1:(0:Int)<(j:Int):=by omega
     have z2:0<j:=by omega
     have z3:(j:Int)-1=((j-1:Nat):Int):=by omega
     have z4:((j-1:Nat):Int)<(ts.length:Int):=by omega
     have z5:(0:Int)<=((j-1:Nat):Int):=by omega
     have z7:IntKind.i64.wrap ((j-1:Nat):Int)=((j-1:Nat):Int):=IntWalk.i64_in _ ⟨by omega,by omega⟩;obtain⟨Q,al⟩:∃Q,eZ s.2 t.2=Q:=⟨_,rfl⟩;rw[al] at ak;have ap:=aB al;clear al aj a0 a1 a4 hz ac;refine wp_region_noPanic ?_;refine wp_region_held_drew (S:=(fun w'=>C2 w' w.1.size (.int .i64 vars) (.slice (some ⟨b,am,none⟩) ts.length c)∧C2 w' wy.1.size (.string ⟨t.1.toArray⟩) (.slice Au t.2.length cu)∧w'.cell? ⟨b,am+(j-1)*2+1,none⟩=some (.slice an s.2.length au))) (by kernel_rfl) (by(try dsimp only);(exact⟨X.k2,P.k2,ar⟩)) (fun d=> ?_);refine b6 (v:= ?_) 0 36 rfl rfl (by kernel_rfl) (fun _ _ _ h=>h) (by rfl) d ?_ ?_;rotate_left;focus (intro w a;(try dsimp only at a);go_simp;(try with_reducible rfl);done)
     (try simp only[Act.put,List.setIfInBounds_toArray,bzS,List.set_cons_succ]);refine b6 (v:= ?_) 1 37 rfl rfl (by kernel_rfl) (fun _ _ _ h=>h) (by rfl) d ?_ ?_;rotate_left;focus (intro w a;(try dsimp only at a);go_simp;(try with_reducible rfl);done)
     (try simp only[Act.put,List.setIfInBounds_toArray,bzS,List.set_cons_succ]);refine b6 (v:= ?_) 2 38 rfl rfl (by kernel_rfl) (fun _ _ _ h=>h) (by rfl) d ?_ ?_;rotate_left;focus (intro w a;(try dsimp only at a);go_simp;(try with_reducible rfl);done)
     (try simp only[Act.put,List.setIfInBounds_toArray,bzS,List.set_cons_succ]);refine b6 (v:= ?_) 3 39 rfl rfl (by kernel_rfl) (fun _ _ _ h=>h) (by rfl) d ?_ ?_;rotate_left;focus (intro w a;(try dsimp only at a);go_simp;(try with_reducible rfl);done)
     (try simp only[Act.put,List.setIfInBounds_toArray,bzS,List.set_cons_succ]);refine b6 (v:= ?_) 4 40 rfl rfl (by kernel_rfl) (fun _ _ _ h=>h) (by rfl) d ?_ ?_;rotate_left;focus (intro w a;(try dsimp only at a);go_simp;(try with_reducible rfl);done)
     (try simp only[Act.put,List.setIfInBounds_toArray,bzS,List.set_cons_succ]);refine b6 (v:= ?_) 5 41 rfl rfl (by kernel_rfl) (fun _ _ _ h=>h) (by rfl) d ?_ ?_;rotate_left;focus (intro w a;(try dsimp only at a);go_simp;(try with_reducible rfl);done)
     (try simp only[Act.put,List.setIfInBounds_toArray,bzS,List.set_cons_succ]);refine b6 (v:= ?_) 6 42 rfl rfl (by kernel_rfl) (fun _ _ _ h=>h) (by rfl) d ?_ ?_;rotate_left;focus (intro w a;(try dsimp only at a);go_simp;(try with_reducible rfl);done)
     (try simp only[Act.put,List.setIfInBounds_toArray,bzS,List.set_cons_succ]);refine b6 (v:= ?_) 7 43 rfl rfl (by kernel_rfl) (fun _ _ _ h=>h) (by rfl) d ?_ ?_;rotate_left;focus (intro w a;(try dsimp only at a);go_simp;(try with_reducible rfl);done)
     (try simp only[Act.put,List.setIfInBounds_toArray,bzS,List.set_cons_succ]);refine b6 (v:= ?_) 8 44 rfl rfl (by kernel_rfl) (fun _ _ _ h=>h) (by rfl) d ?_ ?_;rotate_left;focus (intro w a;(try dsimp only at a);go_simp;(try with_reducible rfl);done)
     (try simp only[Act.put,List.setIfInBounds_toArray,bzS,List.set_cons_succ]);refine b6 (v:= ?_) 9 45 rfl rfl (by kernel_rfl) (fun _ _ _ h=>h) (by rfl) d ?_ ?_;rotate_left;focus (intro w a;(try dsimp only at a);go_simp;(try with_reducible rfl);done)
     (try simp only[Act.put,List.setIfInBounds_toArray,bzS,List.set_cons_succ]);refine b6 (v:= ?_) 10 46 rfl rfl (by kernel_rfl) (fun _ _ _ h=>h) (by rfl) d ?_ ?_;rotate_left;focus (intro w a;(try dsimp only at a);go_simp;(try with_reducible rfl);done)
     (try simp only[Act.put,List.setIfInBounds_toArray,bzS,List.set_cons_succ]);refine b6 (v:= ?_) 11 47 rfl rfl (by kernel_rfl) (fun _ _ _ h=>h) (by rfl) d ?_ ?_;rotate_left;focus (intro w a;(try dsimp only at a);go_simp;(try with_reducible rfl);done)
     (try simp only[Act.put,List.setIfInBounds_toArray,bzS,List.set_cons_succ]);refine b6 (v:= ?_) 12 48 rfl rfl (by kernel_rfl) (fun _ _ _ h=>h) (by rfl) d ?_ ?_;rotate_left;focus (intro w a;(try dsimp only at a);go_simp;(try with_reducible rfl);done)
     (try simp only[Act.put,List.setIfInBounds_toArray,bzS,List.set_cons_succ]);refine b6 (v:= ?_) 13 49 rfl rfl (by kernel_rfl) (fun _ _ _ h=>h) (by rfl) d ?_ ?_;rotate_left;focus (intro w a;(try dsimp only at a);go_simp;(try with_reducible rfl);done)
     (try simp only[Act.put,List.setIfInBounds_toArray,bzS,List.set_cons_succ]);refine b6 (v:= ?_) 14 50 rfl rfl (by kernel_rfl) (fun _ _ _ h=>h) (by rfl) d ?_ ?_;rotate_left;focus (intro w a;(try dsimp only at a);go_simp;(try with_reducible rfl);done)
     (try simp only[Act.put,List.setIfInBounds_toArray,bzS,List.set_cons_succ]);refine wpAnyH_ready (rs:=[15]) (by kernel_rfl) (by simp) (AllReadyH.cons (o:=_) rfl (fun K hK=> ?_) AllReadyH.nil);go_simp;(go_at_call 100;refine(ak _ (a8.be (aG q.1.size q).drew) (l.be (aG q.1.size q).drew)).mono ?_;rintro e5 w5 ⟨rfl,aw⟩;have x:Below q.1.size q w5:=(aG q.1.size q).drew.trans (aw.mono aE));go_wp2_with fail;refine hK.out _ _ (by(try dsimp only);(exact⟨(X.be x).k2,(P.be x).k2,(x.cell (p:=⟨b,_,none⟩) bm).trans ar⟩)) (fun d=> ?_);clear hK K;(try simp only[Act.put,List.setIfInBounds_toArray,bzS,List.set_cons_succ]);clear ak aw;by_cases ho:0<Q;rotate_left
     ·have r:pA vars ts j=false:=TL (u:=s) HT.out.1 (.inr ⟨z2,aq.out,by rw[ap.out];exact ho⟩);obtain rfl:V=false:=HV.out.symm.trans (TR ai r);have z6:Q<=0:=by omega
      clear r;refine b6 (v:= ?_) 16 52 rfl rfl (by kernel_rfl) (fun _ _ _ h=>h) (by rfl) d ?_ ?_;rotate_left;focus (intro w a;(try dsimp only at a);go_simp;(try with_reducible rfl);done)
      (try simp only[Act.put,List.setIfInBounds_toArray,bzS,List.set_cons_succ]);refine b6 (v:= ?_) 17 53 rfl rfl (by kernel_rfl) (fun _ _ _ h=>h) (by rfl) d ?_ ?_;rotate_left;focus (intro w a;(try dsimp only at a);go_simp;(try with_reducible rfl);done)
      (try simp only[Act.put,List.setIfInBounds_toArray,bzS,List.set_cons_succ]);refine b6 (v:= ?_) 18 54 rfl rfl (by kernel_rfl) (fun _ _ _ h=>h) (by rfl) d ?_ ?_;rotate_left;focus (intro w a;(try dsimp only at a);go_simp;(try with_reducible rfl);done)
      (try simp only[Act.put,List.setIfInBounds_toArray,bzS,List.set_cons_succ]);refine wpAnyH_done (by kernel_rfl) ?_ _;refine NoPanic.normal ?_;go_wp2;go_ret2;exact⟨_,_,_,rfl,aC f x⟩
     have r:pA vars ts j=true:=ezI HT.out.1 I.out (fun u h0 l=>by
      rw[aq.out] at l;injection l with l;rw[<-l,ap.out];exact ho)
     have ao:=aB r;have z6:¬Q<=0:=by omega
     clear r;refine b6 (v:= ?_) 16 52 rfl rfl (by kernel_rfl) (fun _ _ _ h=>h) (by rfl) d ?_ ?_;rotate_left;focus (intro w a;(try dsimp only at a);go_simp;(try with_reducible rfl);done)
     (try simp only[Act.put,List.setIfInBounds_toArray,bzS,List.set_cons_succ]);refine b6 (v:= ?_) 17 53 rfl rfl (by kernel_rfl) (fun _ _ _ h=>h) (by rfl) d ?_ ?_;rotate_left;focus (intro w a;(try dsimp only at a);go_simp;(try with_reducible rfl);done)
     (try simp only[Act.put,List.setIfInBounds_toArray,bzS,List.set_cons_succ]);refine b6 (v:= ?_) 18 54 rfl rfl (by kernel_rfl) (fun _ _ _ h=>h) (by rfl) d ?_ ?_;rotate_left;focus (intro w a;(try dsimp only at a);go_simp;(try with_reducible rfl);done)
     (try simp only[Act.put,List.setIfInBounds_toArray,bzS,List.set_cons_succ]);refine wpAnyH_done (by kernel_rfl) ?_ _;refine NoPanic.normal ?_;replace f:=aC f x;replace X:=X.be x;replace T:=T.be x;replace m:=m.be x;go_upto_region 10 with fail)
    all_goals (
     have cT:=T.g10;obtain⟨w6,e6,ag,Y⟩:=bI w5 [.int .i64 Z,.int .i64 x1,.int .i64 x2,.int .i64 x3,.int .i64 x4,.int .i64 x5,.bool R,.slice F M B,.bool U,.slice G N C] 109;replace X:=X.be ag;replace m:=m.be ag;replace f:=aC f ag;have a6:=m.own;obtain⟨xs,bk⟩:=m;have bc:w.1.size+1<=w6.1.size:=X.lt;have bh:Src w6 (some ⟨w5.1.size,0,none⟩) [.int .i64 Z,.int .i64 x1,.int .i64 x2,.int .i64 x3,.int .i64 x4,.int .i64 x5,.bool R,.slice F M B,.bool U,.slice G N C]:= .inr ⟨_,0,rfl,fun i v hv=>by rw[bA];exact Y.cell i hv⟩;go_wp2_with (at_builtin;(try rw[e6]);refine gM rfl rfl 109 _ 10 112 underlying92 ezC rfl (by decide) (w.1.size+1) _ j xs rfl bk [.int .i64 Z,.int .i64 x1,.int .i64 x2,.int .i64 x3,.int .i64 x4,.int .i64 x5,.bool R,.slice F M B,.bool U,.slice G N C] rfl rfl bh (fxM _ _ _ _ _ _ _ _ _ _ _ _ _ _) (by omega) (by omega) bc ?_;intro v7 w7 bg a3 _);have bf:=X.lt;replace X:Bx w7 w.1.size _ _:=(a3.block w.1.size bf (fun e=>by have:=(a6 _ e.symm).1;omega)).trans X;replace f:=f.trans (pT a3 f.size (fun g e=>by have:=(a6 g e).1;omega));go_roundg k
     case rel=>exact⟨j+1,by have:=HJ.out;unfold Hid;omega,by go_num,⟨_,bg⟩,fun i hi=>by
      rcases dE i j with h|h
      ·exact HI.out i h
      ·obtain rfl:i=j:=by omega
       exact ao.out,X,f⟩
     case measure=>omega)
def eqX(a b:List Int)(Q R:Value)(w:World)(t:IntsAt w Q a)(u:IntsAt w R b)(M:a.length=b.length)(C:Ex a)(P:Ex b):
  Calls prog 53 #[Q,R] w fun e w'=>e= .returned (.int .i64 (eZ a b))∧Below w.1.size w w':=by
 obtain⟨A,c,rfl,hc⟩:=t.form;obtain⟨B,d,rfl,hd⟩:=u.form;have s:=aB M;have G:=aB C;have H:=aB P;have ac:=C.1;have g:=aG w.1.size w;clear M C P;go_enter func53,ntmps53;go_wp2_with fail;go_loopg [5,6,7] a.length (fun k h i D wr=>∃(j:Nat),Hid (j+k=a.length)∧h= .int .i64 (cF (a.take j))∧i= .int .i64 (cF (b.take j))∧D= .int .i64 j∧Below w.1.size w wr)
 case atStart=>exact⟨0,by unfold Hid;omega,rfl,rfl,rfl,g⟩
 case round=>
  clear g;obtain⟨j,r,rfl,rfl,rfl,g⟩:=hrel;generalize wr=wz at *;have Y:(0:Int)<=(j:Int):=by omega
  obtain⟨s1,s2⟩:=G.out.sum j;obtain⟨s3,s4⟩:=H.out.sum j;cases gk with
  |succ k=>
   have Z:j<a.length:=by have:=r.out;omega
   have v:j<b.length:=by have:=s.out;omega
   have q1:(j:Int)<(a.length:Int):=by omega
   have q2:(j:Int)<(b.length:Int):=by omega
   obtain⟨x,n⟩:∃x,a[j]? =some x:=⟨_,aR Z⟩;obtain⟨y,o⟩:∃y,b[j]? =some y:=⟨_,aR v⟩;obtain⟨U,oa,rfl,la,W⟩:=(t.be g).at_ n;obtain⟨V,ob,rfl,lb,X⟩:=(u.be g).at_ o;obtain⟨x1,x2⟩:=G.out.2 x (dG n);obtain⟨y1,y2⟩:=H.out.2 y (dG o);have J:=Y8 n;have K:=Y8 o;have E:=aB (And.intro J K);clear J K n o;generalize cF (a.take j)=h at *;generalize cF (b.take j)=i at *;have S:IntKind.i64.wrap (h+x)=h+x:=IntWalk.i64_in _ ⟨by omega,by omega⟩;have T:IntKind.i64.wrap (i+y)=i+y:=IntWalk.i64_in _ ⟨by omega,by omega⟩;have HW:=aB (And.intro S T);go_wp2_with fail;go_region
   all_goals (
    clear S T;go_wp2;go_roundg k
    case rel=>exact⟨j+1,by have:=r.out;unfold Hid;omega,by rw[E.out.1],by rw[E.out.2],by go_num,g.drew⟩
    case measure=>omega)
  |zero=>
   have L:j=a.length:=r.out;have f:Hid (eZ a b=if cF (a.take j)=cF (b.take j) then E1 a b a.length else nA (cF (a.take j)) (cF (b.take j))):=by
    unfold Hid eZ;rw[L,aq9,show b.take a.length=b by rw[s.out,aq9]]
   subst L;generalize cF (a.take a.length)=h at *;generalize cF (b.take a.length)=i at *;by_cases q:h=i
   ·subst q;replace f:Hid (eZ a b=E1 a b a.length):=by unfold Hid;rw[f.out,if_pos rfl]
    go_wp2_with fail;go_loopg [8] (a.length+1) (fun k D wr=>∃(j:Nat),Hid (j+1=k)∧D= .int .i64 ((j:Int)-1)∧j<=a.length∧Hid (eZ a b=E1 a b j)∧Below w.1.size w wr)
    case atStart=>exact⟨a.length,rfl,rfl,aE,f,g⟩
    case round=>
     clear f g;obtain⟨j,F,rfl,ab,f,g⟩:=hrel;generalize wr=wy at *;cases j with
     |zero=>
      go_wp2;go_ret;rw[f.out];exact⟨rfl,g⟩
     |succ j=>
      have I:((j+1:Nat):Int)-1=(j:Int):=by omega
      rw[I];clear I;have Y:(0:Int)<=(j:Int):=by omega
      have v:j<b.length:=by have:=s.out;omega
      have q1:(j:Int)<(a.length:Int):=by omega
      have q2:(j:Int)<(b.length:Int):=by omega
      obtain⟨x,n⟩:∃x,a[j]? =some x:=⟨_,aR (by omega)⟩;obtain⟨y,o⟩:∃y,b[j]? =some y:=⟨_,aR v⟩;obtain⟨U,oa,rfl,la,W⟩:=(t.be g).at_ n;obtain⟨V,ob,rfl,lb,X⟩:=(u.be g).at_ o;have l:=fxQ a b j n o;clear n o;by_cases z:x=y
      ·subst z;rw[if_pos rfl] at l;replace f:Hid (eZ a b=E1 a b j):=by unfold Hid;rw[f.out,l]
       clear l;go_wp2_with fail;go_region
       all_goals (
        go_wp2_with fail;obtain⟨gk,rfl⟩:∃m,gk=m+1:=⟨gk-1,by have:=F.out;omega⟩;go_roundg gk
        case rel=>exact⟨j,by have:=F.out;unfold Hid;omega,rfl,by omega,f,g.drew⟩
        case measure=>omega)
      ·rw[if_neg z] at l;have q:(x != y)=true:=by simpa using z
       by_cases O:y<x
       ·have p:Hid (eZ a b= -1):=by unfold Hid;rw[f.out,l];unfold nA;rw[if_pos O]
        clear l f;go_wp2_with fail;go_region
        all_goals (
         go_wp2_with fail;go_region
         all_goals (
          go_wp2;go_ret;rw[p.out];exact⟨rfl,g.drew.drew⟩))
       ·have p:Hid (eZ a b=1):=by unfold Hid;rw[f.out,l];unfold nA;rw[if_neg O,if_pos (by omega)]
        clear l f;go_wp2_with fail;go_region
        all_goals (
         go_wp2_with fail;go_region
         all_goals (
          go_wp2;go_ret;rw[p.out];exact⟨rfl,g.drew.drew⟩))
   ·replace f:Hid (eZ a b=nA h i):=by unfold Hid;rw[f.out,if_neg q]
    have ad:(h != i)=true:=by simpa using q
    by_cases N:h<i
    ·have p:Hid (eZ a b= -1):=by unfold Hid;rw[f.out];unfold nA;rw[if_pos N]
     go_wp2;go_ret;rw[p.out];exact⟨rfl,g⟩
    ·have p:Hid (eZ a b=1):=by unfold Hid;rw[f.out];unfold nA;rw[if_neg N,if_pos (by omega)]
     go_wp2;go_ret;rw[p.out];exact⟨rfl,g⟩
def fqK(e:List Int)(v:Value)(w:World)(hv:IntsAt w v e)(p:∀x∈e, -9223372036854775808<=x∧x<=9223372036854775807):
  Calls prog 92 #[v] w fun r w'=>r= .returned (.int .i64 (gX e))∧w=w':=by
 obtain⟨A,c,rfl,H⟩:=hv.form;have u:=aB p;unfold gX;clear p;go_enter func92,ntmps92;by_cases m:6<e.length
 ·have C:(6:Int)<(e.length:Int):=by omega
  rw[if_pos m];go_wp2;go_ret;exact⟨rfl,rfl⟩
 ·have C:¬(6:Int)<(e.length:Int):=by omega
  rw[if_neg m];obtain⟨V,i⟩:∃V,tM 0 e=V:=⟨_,rfl⟩;rw[i];have l:=aB i;clear i;go_wp2_with fail;go_loopg [3,4] e.length (fun k E D wr=>∃(j:Nat) (s:Int),Hid (j+k=e.length)∧E= .int .i64 s∧D= .int .i64 j∧0<=s∧s<=24∧Hid (tM s (e.drop j)=V)∧w=wr)
  case atStart=>exact⟨0,0,by unfold Hid;omega,rfl,rfl,by decide,by decide,l,rfl⟩
  case round=>
   clear l;obtain⟨j,s,h,rfl,rfl,L,M,g,rfl⟩:=hrel;have I:(0:Int)<=(j:Int):=by omega
   cases gk with
   |zero=>
    have n:j=e.length:=h.out;have t:Hid (s=V):=by
     have:=g.out;rw[n,azY] at this;exact this
    subst n;go_wp2;go_ret;rw[<-t.out];exact⟨rfl,rfl⟩
   |succ k=>
    have B:j<e.length:=by have:=h.out;omega
    have K:(j:Int)<(e.length:Int):=by omega
    obtain⟨x,f⟩:∃x,e[j]? =some x:=⟨_,aR B⟩;obtain⟨b,o,rfl,J,F⟩:=hv.at_ f;obtain⟨N,O⟩:=u.out x (dG f);have q:=fxS (s:=s) f;have a:=g.out;rw[q] at a;clear q f g;by_cases y:x<0
    ·rw[if_pos (.inl y)] at a;have d:=aB a;clear a;go_wp2;go_ret;rw[<-d.out];exact⟨rfl,rfl⟩
    ·have G:0<=x:=by omega
     by_cases z:24-s<x
     ·rw[if_pos (.inr z)] at a;have d:=aB a;clear a;go_wp2;go_ret;rw[<-d.out];exact⟨rfl,rfl⟩
     ·rw[if_neg (by omega)] at a;have d:=aB a;clear a;go_wp2;go_roundg k
      case rel=>exact⟨j+1,s+x,by have:=h.out;unfold Hid;omega,rfl,by go_num,by omega,by omega,d,rfl⟩
      case measure=>omega
def fqL{e:List Int}(h:6<e.length):decide (0<=gX e)=false:=by
 unfold gX;rw[if_pos h];rfl
def fqM(e:List Int)(v:Value)(w:World)(hv:IntsAt w v e)(b:∀x∈e, -9223372036854775808<=x∧x<=9223372036854775807):
  Calls prog 43 #[v] w fun r w'=>r= .returned (.bool (decide (0<=gX e)))∧w=w':=by
 have h:=fqK e v w hv b;obtain⟨A,c,rfl,g⟩:=hv.form;by_cases a:6<e.length
 ·rw[fqL a];have f:¬(e.length:Int)<=6:=by omega
  clear h;go_enter func43,ntmps43;go_wp2;go_ret;exact⟨rfl,rfl⟩
 ·have f:(e.length:Int)<=6:=by omega
  generalize gX e=d at *;go_enter func43,ntmps43;go_wp2_with (go_at_call 92;refine h.mono ?_;rintro e w' ⟨rfl,rfl⟩);go_ret;exact⟨rfl,rfl⟩
def RW(x m:Nat):nl (x^m)<=m*nl x+1:=by
 induction m with
 |zero=>rw[bx0,mJ (by decide) (by decide)];omega
 |succ m a=>
  rw[dH,aq2];have:=fI (x^m) x;omega
def dxR(Y:Int)(a:0<=Y)(b:Y<aA):bits .and .u64 Y 1=Y%2:=by
 rw[u64_and Y 1 a (by unfold aA at b;omega) (by decide) (by decide)];obtain⟨n,rfl⟩:=j7 a;rw[j9,show(1:Int).toNat=2^1-1 from rfl,Nat.and_two_pow_sub_one_eq_mod];rfl
def dzM(n k:Nat)(hn:n<BN):bits .and .u64 ((n:Int)/2^k) 1=((n/2^k%2:Nat):Int):=by
 have e:(n:Int)/2^k=((n/2^k:Nat):Int):=by rw[azR,bx9];rfl
 have:n/2^k<=n:=azK _ _;rw[e,dxR _ (Int.natCast_nonneg _) (by unfold aA;unfold BN at hn;generalize n/2^k=m at *;omega)];rfl
def dzN(x:Int)(n:Nat):x^n=if (decide (x<0)&&decide (n%2=1)) then -((x.natAbs^n:Nat):Int) else ((x.natAbs^n:Nat):Int):=by
 by_cases h:x<0
 ·have e:x= -(x.natAbs:Int):=by omega
  simp only[h,decide_true,Bool.true_and];generalize x.natAbs=a at *;subst e;clear h;induction n with
  |zero=>simp
  |succ n c=>
   rw[gR,c,dH];by_cases b:n%2=1
   ·rw[if_pos (by simpa using b),if_neg (by simp;omega),Int.neg_mul_neg,az8]
   ·rw[if_neg (by simpa using b),if_pos (by simp;omega),Int.mul_neg,az8]
 ·have e:x=(x.natAbs:Int):=by omega
  simp only[h,decide_false,Bool.false_and];rw[if_neg (by simp),bx9,<-e]
def dzO(x n k:Nat):(x^(n/2^(k+1))*x^(n/2^(k+1)))*(if n/2^k%2=1 then x else 1)=x^(n/2^k):=by
 have e:n/2^(k+1)=n/2^k/2:=by rw[dH,aqB]
 rw[e];generalize n/2^k=m;rw[<-KF];split
 ·rw[<-dH];congr 1;omega
 ·rw[az9];congr 1;omega
def dxS(x n:Nat)(l:Value)(w:World)(y:NatAt w l x)(hn:n<BN)(M:2*(n*nl x+1)+nl x<=aJ):
  Calls prog 156 #[l,.int .u64 n] w (jK w [l] (x^n)):=by
 obtain⟨A,c,rfl,Z,hr,ho⟩:=id y;have N:(n:Int)<=18446744073709551615:=by unfold BN at hn;omega
 have q:=RF 64 n (by rw[sY] at hn;exact hn);have s:Lib.bitLenAux 64 n<=64:=Lib.bitLenAux_le 64 n 64 (by rw[sY] at hn;exact hn);have J:n/2^Lib.bitLen n=0:=azT q.1;have K:Lib.bitLen n<=64:=s;clear q s;go_enter func156,ntmps156;go_wp2_with fail;have m:NatAt (w.alloc (.cells #[.int .u64 1] 143)) (.slice (some ⟨w.1.size,0,none⟩) 1 1) 1:=by
  refine⟨_,1,by rw[mJ (by decide) (by decide)],by rw[mJ (by decide) (by decide)];exact aE,?_,Old.mk (by simp)⟩;rw[pC (by decide) (by decide)];refine Rd.mk (by simp) ?_;intro i I;obtain rfl:i=0:=by simpa using I
  simp[go_sem]
 have b:Below w.1.size w (w.alloc (.cells #[.int .u64 1] 143)):=(aG _ _).alloc aE _;generalize w.alloc (.cells #[.int .u64 1] 143)=W at *;refine(Tryz.bits_Len n _ (by omega) N).mono ?_;rintro V w1 ⟨rfl,rfl⟩;rw[j9];generalize Lib.bitLen n=L at *;go_wp2_with fail;go_loopg [5,6] L (fun k v i wr=>i= .int .i64 ((k:Int)-1)∧k<=64∧NatAt wr v (x^(n/2^k))∧From w [.slice A (nl x) c] v∧Below w.1.size w wr)
 case atStart=>exact⟨by go_num,K,by rw[J,bx0];exact m,From.new aE,b⟩
 case round=>
  clear m b;obtain⟨rfl,hk,hv,j,b⟩:=hrel;generalize wr=wy at *;cases gk with
  |zero=>
   rw[bx0,Nat.div_one] at hv;obtain⟨z,B,rfl,E,Q,O⟩:=id hv;go_wp2;go_ret;exact⟨_,rfl,hv,j,b⟩
  |succ k=>
   have t:=dzO x n k;have af:=RW x (n/2^(k+1));have ad:n/2^(k+1)*nl x<=n*nl x:=dK _ (azK _ _);have ag:=fI (x^(n/2^(k+1))) (x^(n/2^(k+1)));generalize x^(n/2^(k+1))=P at *;obtain⟨z,B,rfl,E,Q,O⟩:=id hv;have ae:(0:Int)<=(k:Int):=by omega
   have e:=aB t;clear t;unfold aJ at M;go_wp2_with fail;refine(qN P P _ _ _ hv hv (by unfold aJ;omega)).mono ?_;rintro X w2 ⟨v2,rfl,h,F,C⟩;obtain⟨R,T,rfl,ab,ak,ai⟩:=id h
   have r:=F.trans (vs:=[.slice A (nl x) c]) b.size (fun u a=>by
    rcases List.mem_cons.1 a with rfl|a
    ·exact j
    ·rcases List.mem_cons.1 a with rfl|a
     ·exact j
     ·cases a)
   have f:=aC b C;have am:IntKind.u64.wrap (k:Int)=(k:Int):=by rw[IntKind.wrap_u64];omega
   have p:=dzM n k hn;by_cases d:n/2^k%2=1
   ·rw[d] at p;rw[d] at e;have g:Hid (P*P*x=x^(n/2^k)):=e.out;clear d e;have ah:=fI P P;go_wp2_with fail;refine(qN (P*P) x _ _ _ h (y.be f) (by unfold aJ;omega)).mono ?_;rintro Y w3 ⟨v3,rfl,o,G,D⟩;obtain⟨S,U,rfl,ac,al,aj⟩:=id o
    have H:=G.trans (vs:=[.slice A (nl x) c]) f.size (fun u a=>by
     rcases List.mem_cons.1 a with rfl|a
     ·exact r
     ·rcases List.mem_cons.1 a with rfl|a
      ·exact From.mem (iC ..)
      ·cases a)
    go_wp2;go_roundg k
    case rel=>exact⟨by go_num,by omega,by rw[<-g.out];exact o,H,aC f D⟩
    case measure=>omega
   ·have d:n/2^k%2=0:=by omega
    rw[d] at p;rw[d] at e;have g:Hid (P*P=x^(n/2^k)):=by have:=e.out;rw[if_neg (by decide),az9] at this;exact this
    clear d e;go_wp2;go_roundg k
    case rel=>exact⟨by go_num,by omega,by rw[<-g.out];exact h,r,f⟩
    case measure=>omega
def dzP(x:Int)(n:Nat)(Z:Value)(w:World)(hx:IntAt w Z x)(hn:n<BN)(A:2*(n*nl x.natAbs+1)+nl x.natAbs<=aJ):
  Calls prog 122 #[Z,.int .u64 n] w (dW w (x^n)):=by
 obtain⟨ux,rfl,B⟩:=hx;obtain⟨c0,c1,k,l,z,X,m⟩:=ON w (.bool (decide (x<0))) ux 77;have J:=dzN x n;have V:(x^n).natAbs=x.natAbs^n:=Int.natAbs_pow x n;have Y:=B.be m;have U:=dxR (n:Int) (by omega) (by unfold aA;unfold BN at hn;omega);have ai:=RW x.natAbs n;obtain⟨y,E⟩:∃y:Bool,decide (n%2=1)=y:=⟨_,rfl⟩;have ag:(bits .and .u64 (n:Int) 1==1)=y:=by
  rw[U,<-E];by_cases h:n%2=1
  ·simp only[h,decide_true];rw[beq_iff_eq];omega
  ·simp only[h,decide_false];rw[beq_eq_false_iff_ne];omega
 rw[E] at J;clear U E;have s:=aB J;have R:=aB V;have S:=aB X;obtain⟨f,t⟩:∃f,Hid (decide (x^n<0)=f):=⟨_,rfl⟩;generalize decide (x<0)=sx at *;obtain⟨Q,T,rfl,ah,ak,aj⟩:=id B;clear J V X;cases sx with
 |false=>
  rw[Bool.false_and] at s;go_enter func122,ntmps122;go_wp2_with fail;generalize (w.alloc (.cells #[.bool false,.slice Q (nl x.natAbs) T] 77)).alloc (.cells #[.bool false,.slice none 0 0] 77)=W at *;refine(dxS x.natAbs n _ _ Y hn A).mono ?_;rintro e3 w3 ⟨v3,rfl,i,H,a⟩;obtain⟨b,c,rfl,ad,af,ae⟩:=id i;have e:w.1.size+1<W.1.size:=by have:=S.out;omega
  replace k:=(a.cell (p:=⟨w.1.size+1,0,none⟩) e).trans k;replace l:=(a.cell (p:=⟨w.1.size+1,1,none⟩) e).trans l;have C:=(a.frozen (p:=⟨w.1.size+1,0,none⟩) e).trans (z 0);have D:=(a.frozen (p:=⟨w.1.size+1,1,none⟩) e).trans (z 1);go_wp2_with fail;refine(p7 false _ _ (x^n) _ i (by unfold aJ at A;omega) s.out).mono ?_;rintro e5 j ⟨o,d⟩;rw[t.out] at o;subst o;have g:=aZ e a.size;have M:=(d.cell (p:=⟨w.1.size+1,0,none⟩) g).trans k;have N:=(d.cell (p:=⟨w.1.size+1,1,none⟩) g).trans l;have ab:=(d.frozen (p:=⟨w.1.size+1,0,none⟩) g).trans C;have ac:=(d.frozen (p:=⟨w.1.size+1,1,none⟩) g).trans D;go_wp2_with fail;have I:=p8 (p:= .bool f) (q:= .slice b (nl (x.natAbs^n)) c) M N;have F:Below w.1.size w j:=m.trans ((aC a d).mono m.size);have G:=(F.setCell (p:=⟨w.1.size+1,0,none⟩) (by simp) (.bool f)).setCell (p:=⟨w.1.size+1,1,none⟩) (by simp) (.slice b (nl (x.natAbs^n)) c);obtain⟨O,P⟩:=I;have r:=H.ne e (fun u K=>by rw[List.mem_singleton.1 K];exact B.ne (by omega));have L:NatAt ((j.setCell ⟨w.1.size+1,0,none⟩ (.bool f)).setCell ⟨w.1.size+1,1,none⟩ (.slice b (nl (x.natAbs^n)) c)) (.slice b (nl (x.natAbs^n)) c) (x.natAbs^n):=((i.be d).set _ r).set _ r;generalize (j.setCell ⟨w.1.size+1,0,none⟩ (.bool f)).setCell ⟨w.1.size+1,1,none⟩ (.slice b (nl (x.natAbs^n)) c)=W6 at *;exact aM (v:= .agg #[.bool f,.slice b (nl (x.natAbs^n)) c]) (by simp[results,results122,go_sem,O,P]) rfl ⟨_,rfl,⟨_,by rw[t.out],by rw[R.out];exact L⟩,G⟩
 |true=>
  rw[Bool.true_and] at s;go_enter func122,ntmps122;go_wp2_with fail;generalize (w.alloc (.cells #[.bool true,.slice Q (nl x.natAbs) T] 77)).alloc (.cells #[.bool false,.slice none 0 0] 77)=W at *;refine(dxS x.natAbs n _ _ Y hn A).mono ?_;rintro e3 w3 ⟨v3,rfl,i,H,a⟩;obtain⟨b,c,rfl,ad,af,ae⟩:=id i;have e:w.1.size+1<W.1.size:=by have:=S.out;omega
  replace k:=(a.cell (p:=⟨w.1.size+1,0,none⟩) e).trans k;replace l:=(a.cell (p:=⟨w.1.size+1,1,none⟩) e).trans l;have C:=(a.frozen (p:=⟨w.1.size+1,0,none⟩) e).trans (z 0);have D:=(a.frozen (p:=⟨w.1.size+1,1,none⟩) e).trans (z 1);go_wp2_with fail;refine(p7 y _ _ (x^n) _ i (by unfold aJ at A;omega) s.out).mono ?_;rintro e5 j ⟨o,d⟩;rw[t.out] at o;subst o;have g:=aZ e a.size;have M:=(d.cell (p:=⟨w.1.size+1,0,none⟩) g).trans k;have N:=(d.cell (p:=⟨w.1.size+1,1,none⟩) g).trans l;have ab:=(d.frozen (p:=⟨w.1.size+1,0,none⟩) g).trans C;have ac:=(d.frozen (p:=⟨w.1.size+1,1,none⟩) g).trans D;go_wp2_with fail;have I:=p8 (p:= .bool f) (q:= .slice b (nl (x.natAbs^n)) c) M N;have F:Below w.1.size w j:=m.trans ((aC a d).mono m.size);have G:=(F.setCell (p:=⟨w.1.size+1,0,none⟩) (by simp) (.bool f)).setCell (p:=⟨w.1.size+1,1,none⟩) (by simp) (.slice b (nl (x.natAbs^n)) c);obtain⟨O,P⟩:=I;have r:=H.ne e (fun u K=>by rw[List.mem_singleton.1 K];exact B.ne (by omega));have L:NatAt ((j.setCell ⟨w.1.size+1,0,none⟩ (.bool f)).setCell ⟨w.1.size+1,1,none⟩ (.slice b (nl (x.natAbs^n)) c)) (.slice b (nl (x.natAbs^n)) c) (x.natAbs^n):=((i.be d).set _ r).set _ r;generalize (j.setCell ⟨w.1.size+1,0,none⟩ (.bool f)).setCell ⟨w.1.size+1,1,none⟩ (.slice b (nl (x.natAbs^n)) c)=W6 at *;exact aM (v:= .agg #[.bool f,.slice b (nl (x.natAbs^n)) c]) (by simp[results,results122,go_sem,O,P]) rfl ⟨_,rfl,⟨_,by rw[t.out],by rw[R.out];exact L⟩,G⟩
def RatAt.int{w:World}{s a:Bool}{u b:Value}{n:Int}(c:IntAt w (.agg #[.bool s,u]) n)(d:IntAt w (.agg #[.bool a,b]) 0):RatAt w (.agg #[.bool s,u,.bool a,b]) (n:Rat):=
 RatAt.of c d rfl (fV.2 rfl)
def tO:nl (Int.natAbs 0)<=17592186044416:=by rw[show Int.natAbs 0=0 from rfl,dO];exact dC _
def UV(n:Int):bS (n:Rat)=0:=fV.2 rfl
def BZ(n:Int)(f:Value)(w:World)(hn:IntAt w f n):
  Calls prog 79 #[f] w (iF w (n:Rat)):=by
 obtain⟨d,a,c,b,rfl⟩:=hn.form;have h:Bx ((w.alloc (.cells #[.bool d,.slice a c b] 77)).alloc (.cells #[.bool false,.slice none 0 0,.bool false,.slice none 0 0] 86)) (w.1.size) [.bool d,.slice a c b] 77:=(Bx.newAt w [.bool d,.slice a c b] 77 (w.1.size) (by simp)).alloc (.cells #[.bool false,.slice none 0 0,.bool false,.slice none 0 0] 86);have R:Bx ((w.alloc (.cells #[.bool d,.slice a c b] 77)).alloc (.cells #[.bool false,.slice none 0 0,.bool false,.slice none 0 0] 86)) (w.1.size+1) [.bool false,.slice none 0 0,.bool false,.slice none 0 0] 86:=Bx.newAt (w.alloc (.cells #[.bool d,.slice a c b] 77)) [.bool false,.slice none 0 0,.bool false,.slice none 0 0] 86 (w.1.size+1) (by simp);have g:Below w.1.size w ((w.alloc (.cells #[.bool d,.slice a c b] 77)).alloc (.cells #[.bool false,.slice none 0 0,.bool false,.slice none 0 0] 86)):=((aG _ _).alloc (by simp) _).alloc (by simp<;>omega) _;go_enter func79,ntmps79;go_wp2_with fail;have i:=hn.be g;have e:=((aG w.1.size w).alloc aE (.cells #[.bool d,.slice a c b] 77)).alloc (by simp) (.cells #[.bool d,.slice a c b,.bool false,.slice none 0 0] 86);exact aM (v:= .agg #[.bool d,.slice a c b,.bool false,.slice none 0 0]) (by simp[results,results79,go_sem]) rfl ⟨_,rfl,RatAt.int (hn.be e) (IntAt.zero _),e⟩
def fqN(n:Int)(m:Nat)(v:Value)(w:World)(hv:RatAt w v (n:Rat))(D:m<BN)(C:2*(m*nl n.natAbs+1)+nl n.natAbs<=aJ):
  Calls prog 74 #[v,.int .u64 m] w (iF w ((n^m:Int):Rat)):=by
 obtain⟨s,A,k,c,y,j,u,o,rfl⟩:=hv.form;obtain⟨W,q,a,b,R⟩:=DA w [.bool s,.slice A k c,.bool y,.slice j u o] 86 [.bool false,.slice none 0 0,.bool false,.slice none 0 0] 86;have h:=aa b.g4 R.g4;go_enter func74,ntmps74;go_wp2_with fail;(try rw[q]);clear q;have hn:IntAt W (.agg #[.bool s,.slice A k c]) n:=(hv.be a).num;have i:IntAt W (.agg #[.bool y,.slice j u o]) 0:=by have:=(hv.be a).den;rw[UV] at this;exact this
 refine(g9 0 _ _ i tO).mono ?_;rintro F I ⟨rfl,f⟩;replace b:=b.be f;replace R:=R.be f;replace h:=aa b.k4 R.g4;replace d:=Keep.be f;replace hn:=hn.ke d;replace i:=i.ke d;replace a:=aC a f;have t:decide ((0:Int)=0)=true:=rfl;rw[t];clear t;go_wp2_with fail;refine(dzP n m _ _ hn D C).mono ?_;rintro G J ⟨H,rfl,e,g⟩;obtain⟨z,l,x,p,rfl⟩:=e.form;replace b:=b.be g;replace R:=R.be g;replace h:=aa b.k4 R.g4;replace d:=Keep.be g;replace hn:=hn.ke d;replace a:=aC a g;go_wp2_with fail;obtain⟨E,r,R,a,d,B⟩:=R.put4 a (by omega) (.bool z) (.slice l x p) (.bool false) (.slice none 0 0) rfl rfl;replace b:=B b (by omega);replace e:=e.ke d;rw[r];clear r;replace h:=aa b.k4 R.k4;exact aM (v:= .agg #[.bool z,.slice l x p,.bool false,.slice none 0 0]) (by simp[results,results74,go_sem,R.k4]) rfl ⟨_,rfl,RatAt.int e (IntAt.zero _),a⟩
def cqY(x y:Int)(vx vy:Value)(w:World)(G:RatAt w vx (x:Rat))(H:RatAt w vy (y:Rat))(ab:nl x.natAbs+nl y.natAbs<=17592186044416):
  Calls prog 76 #[vx,vy] w (iF w ((x*y:Int):Rat)):=by
 obtain⟨s,A,k,c,U,I,Q,M,rfl⟩:=G.form;obtain⟨t,C,l,e,Z,K,T,O,rfl⟩:=H.form;obtain⟨W,P,a,X,Y,R⟩:=gE w [.bool s,.slice A k c,.bool U,.slice I Q M] 86 [.bool t,.slice C l e,.bool Z,.slice K T O] 86 [.bool false,.slice none 0 0,.bool false,.slice none 0 0] 86;have j:=aa X.g4 (aa Y.g4 R.g4);go_enter func76,ntmps76;go_wp2_with fail;(try rw[P]);clear P;have f:IntAt W (.agg #[.bool s,.slice A k c]) x:=(G.be a).num;have h:IntAt W (.agg #[.bool U,.slice I Q M]) 0:=by have:=(G.be a).den;rw[UV] at this;exact this
 have g:IntAt W (.agg #[.bool t,.slice C l e]) y:=(H.be a).num;have i:IntAt W (.agg #[.bool Z,.slice K T O]) 0:=by have:=(H.be a).den;rw[UV] at this;exact this
 refine(g9 x _ _ f (by omega)).mono ?_;rintro e1 w1 ⟨rfl,p⟩;replace X:=X.be p;replace Y:=Y.be p;replace R:=R.be p;replace j:=aa X.k4 (aa Y.k4 R.g4);replace b:=Keep.be p;replace f:=f.ke b;replace h:=h.ke b;replace g:=g.ke b;replace i:=i.ke b;replace a:=aC a p;by_cases E:x=0
 ·have d:decide (x=0)=true:=by simpa using E
  rw[d];have z:x*y=0:=by rw[E,bxB]
  have o:=aB z;clear d z E;go_wp2_with fail;obtain⟨L,m,R,a,b,n⟩:=R.put4 a (by omega) (.bool false) (.slice none 0 0) (.bool false) (.slice none 0 0) rfl rfl;replace X:=n X (by omega);replace Y:=n Y (by omega);rw[m];clear m;replace j:=aa X.k4 (aa Y.k4 R.k4);exact aM (v:= .agg #[.bool false,.slice none 0 0,.bool false,.slice none 0 0]) (by simp[results,results76,go_sem,R.k4]) rfl ⟨_,rfl,RatAt.of (IntAt.zero _) (IntAt.zero _) (by rw[o.out];rfl) (by rw[o.out];rfl),a⟩
 ·have d:decide (x=0)=false:=by simpa using E
  rw[d];clear d;go_wp2_with fail;refine(g9 y _ _ g (by omega)).mono ?_;rintro e2 w2 ⟨rfl,q⟩;replace X:=X.be q;replace Y:=Y.be q;replace R:=R.be q;replace j:=aa X.k4 (aa Y.k4 R.g4);replace b:=Keep.be q;replace f:=f.ke b;replace h:=h.ke b;replace g:=g.ke b;replace i:=i.ke b;replace a:=aC a q;by_cases F:y=0
  ·have d:decide (y=0)=true:=by simpa using F
   rw[d];have z:x*y=0:=by rw[F,Int.mul_zero]
   have o:=aB z;clear d z F;go_wp2_with fail;obtain⟨L,m,R,a,b,n⟩:=R.put4 a (by omega) (.bool false) (.slice none 0 0) (.bool false) (.slice none 0 0) rfl rfl;replace X:=n X (by omega);replace Y:=n Y (by omega);rw[m];clear m;replace j:=aa X.k4 (aa Y.k4 R.k4);exact aM (v:= .agg #[.bool false,.slice none 0 0,.bool false,.slice none 0 0]) (by simp[results,results76,go_sem,R.k4]) rfl ⟨_,rfl,RatAt.of (IntAt.zero _) (IntAt.zero _) (by rw[o.out];rfl) (by rw[o.out];rfl),a⟩
  ·have d:decide (y=0)=false:=by simpa using F
   rw[d];clear d;go_wp2_with fail;refine(g9 0 _ _ h tO).mono ?_;rintro e3 w3 ⟨rfl,r⟩;replace X:=X.be r;replace Y:=Y.be r;replace R:=R.be r;replace j:=aa X.k4 (aa Y.k4 R.g4);replace b:=Keep.be r;replace f:=f.ke b;replace h:=h.ke b;replace g:=g.ke b;replace i:=i.ke b;replace a:=aC a r;have d:decide ((0:Int)=0)=true:=rfl;rw[d];clear d;go_wp2_with fail;refine(g9 0 _ _ i tO).mono ?_;rintro e4 w4 ⟨rfl,u⟩;replace X:=X.be u;replace Y:=Y.be u;replace R:=R.be u;replace j:=aa X.k4 (aa Y.k4 R.g4);replace b:=Keep.be u;replace f:=f.ke b;replace h:=h.ke b;replace g:=g.ke b;replace i:=i.ke b;replace a:=aC a u;have d:decide ((0:Int)=0)=true:=rfl;rw[d];clear d;go_wp2_with fail;refine(jB x y _ _ _ f g ab).mono ?_;rintro e5 w5 ⟨v5,rfl,B,D⟩;obtain⟨V,J,S,N,rfl⟩:=B.form;replace X:=X.be D;replace Y:=Y.be D;replace R:=R.be D;replace j:=aa X.k4 (aa Y.k4 R.g4);replace a:=aC a D;go_wp2_with fail;obtain⟨L,m,R,a,b,n⟩:=R.put4 a (by omega) (.bool V) (.slice J S N) (.bool false) (.slice none 0 0) rfl rfl;replace X:=n X (by omega);replace Y:=n Y (by omega);replace B:=B.ke b;rw[m];clear m;replace j:=aa X.k4 (aa Y.k4 R.k4);exact aM (v:= .agg #[.bool V,.slice J S N,.bool false,.slice none 0 0]) (by simp[results,results76,go_sem,R.k4]) rfl ⟨_,rfl,RatAt.int B (IntAt.zero _),a⟩
end Go.Proofs.YtmiaanioldpfgaaGreatDoor
namespace Go.Proofs.YtmiaanioldpfgaaGreatDoor
variable{a b l:List Nat}{d i x y:Nat}
def aD:Nat:=4294967296
def mV:0<aD:=by decide
def nv:List Nat->Nat
 |[]=>0
 |d :: l=>d+aD*nv l
def Dg(l:List Nat):Prop:=∀d∈l,d<aD
def rB:nv []=0:=rfl
def mF(l m:List Nat):nv (l++m)=nv l+aD^l.length*nv m:=by
 induction l with
 |nil=>simp[nv]
 |cons d l a=>
  rw[List.cons_append,nv,nv,a,List.length_cons,Nat.pow_succ,Nat.mul_add,Nat.mul_comm (aD^l.length) aD,Nat.mul_assoc];omega
def NV(n:Nat):nv (List.replicate n 0)=0:=by
 induction n with
 |zero=>rfl
 |succ n a=>rw[List.replicate_succ,nv,a];rfl
def nO(h:Dg l):nv l<aD^l.length:=by
 induction l with
 |nil=>simp[nv]
 |cons d l e=>
  have a:=e (fun x c=>h x (List.mem_cons_of_mem _ c));have f:=h d List.mem_cons_self;rw[nv,List.length_cons,Nat.pow_succ,Nat.mul_comm];have b:(nv l+1)*aD<=aD^l.length*aD:=Nat.mul_le_mul_right _ a;rw[Nat.add_mul] at b;omega
def NW(h:l[i]? =some d):nv (l.take (i+1))=nv (l.take i)+aD^i*d:=by
 have a:=(List.getElem?_eq_some_iff.1 h).1;rw[List.take_succ_eq_append_getElem a,mF,nv,rB,Nat.mul_zero,Nat.add_zero,List.length_take,Nat.min_eq_left (Nat.le_of_lt a)];rw[List.getElem?_eq_getElem a] at h;injection h with h;rw[h]
def zM(h:l[i]? =some d):nv (l.drop i)=d+aD*nv (l.drop (i+1)):=by
 have a:=(List.getElem?_eq_some_iff.1 h).1;rw[List.drop_eq_getElem_cons a,nv];rw[List.getElem?_eq_getElem a] at h;injection h with h;rw[h]
def Dg.set(h:Dg l)(i:Nat)(c:x<aD):Dg (l.set i x):=fun d b=>by
 rcases List.mem_or_eq_of_mem_set b with a|a
 ·exact h d a
 ·rw[a];exact c
def Dg.zeros(n:Nat):Dg (List.replicate n 0):=fun d a=>by rw[(List.mem_replicate.1 a).2];exact mV
def Dg.take(h:Dg l)(n:Nat):Dg (l.take n):=fun d a=>h d (List.mem_of_mem_take a)
def Dg.get(h:Dg l)(hi:l[i]? =some d):d<aD:=h d (List.mem_of_getElem? hi)
def Dg.trim(h:Dg l):Dg (aW aV l):=fun d a=>h d (rC a)
def EZ(l:List Nat):nv (aW aV l)=nv l:=by
 obtain⟨m,b,c, -⟩:=pZ aV l;have i:nv m=0:=by
  clear b;induction m with
  |nil=>rfl
  |cons d m j=>
   have h:=c d List.mem_cons_self;have f:d=0:=by simpa [aV] using h
   rw[nv,j (fun a g=>c a (List.mem_cons_of_mem _ g)),f];rfl
 have e:=mF (aW aV l) m;rw[<-b,i,Nat.mul_zero,Nat.add_zero] at e;exact e.symm
def zN(b:aN l)(a:l≠[]):aD^(l.length-1)<=nv l:=by
 obtain⟨m,d,rfl⟩:∃m d,l=m++[d]:=⟨l.dropLast,l.getLast a,(List.dropLast_concat_getLast a).symm⟩;have c:d≠0:=b d (by simp);rw[mF,nv,rB,Nat.mul_zero,Nat.add_zero,List.length_append,List.length_singleton,Nat.add_sub_cancel];have:aD^m.length*1<=aD^m.length*d:=Nat.mul_le_mul_left _ (by omega);omega
def vI(d:Dg a)(f:aN b)(h:a.length<b.length):nv a<nv b:=by
 have c:b≠[]:=fun e=>by rw[e] at h;simp at h
 have g:=nO d;have i:=zN f c;have j:aD^a.length<=aD^(b.length-1):=Nat.pow_le_pow_right mV (by omega);omega
def NX(b:aN l)(h:nv l=0):l=[]:=by
 by_cases a:l=[]
 ·exact a
 ·have:=zN b a;have c:0<aD^(l.length-1):=Nat.pow_pos mV;omega
def F0(j:Dg a)(n:Dg b)(d:a[i]? =some x)(l:b[i]? =some y)(o:a.length=b.length)(k:a.drop (i+1)=b.drop (i+1))(h:x<y):nv a<nv b:=by
 have c:=(List.getElem?_eq_some_iff.1 d).1;have e:nv a=nv (a.take i)+aD^i*(x+aD*nv (a.drop (i+1))):=by
  rw[<-zM d];conv=>lhs;rw[<-List.take_append_drop i a,mF,List.length_take,Nat.min_eq_left (Nat.le_of_lt c)]
 have f:nv b=nv (b.take i)+aD^i*(y+aD*nv (b.drop (i+1))):=by
  rw[<-zM l];conv=>lhs;rw[<-List.take_append_drop i b,mF,List.length_take,Nat.min_eq_left (by omega)]
 have g:=nO (j.take i);rw[List.length_take,Nat.min_eq_left (Nat.le_of_lt c)] at g;rw[e,f,k];have m:aD^i*(x+aD*nv (b.drop (i+1)))+aD^i<=aD^i*(y+aD*nv (b.drop (i+1))):=by
  rw[<-Nat.mul_succ];exact Nat.mul_le_mul_left _ (by omega)
 omega
def zO{s:Nat}(a:x<2^s):2^s*y ||| x=2^s*y+x:=(Nat.two_pow_add_eq_or_of_lt a y).symm
