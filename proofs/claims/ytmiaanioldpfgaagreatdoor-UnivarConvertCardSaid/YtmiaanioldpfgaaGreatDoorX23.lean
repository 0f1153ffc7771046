/- Laws. -/
import Derived.Test.YtmiaanioldpfgaaGreatDoorProg
import Derived.Test.YtmiaanioldpfgaaGreatDoorX22
import Derived.Sort.Statements
import Derived.Shelf.SlSortCmp.WholeK
import Derived.Ground.SlsfProg
import Derived.Laws.IdiomRangeMap
import Derived.Laws.StructEq
import Derived.MapKept
set_option linter.all false
set_option maxHeartbeats 8000000
set_option maxRecDepth 99999
namespace Go.Proofs.YtmiaanioldpfgaaGreatDoor
open Go.RowKit Sos Tryz
variable{C rs:List Nat}{d j:Nat}
structure Asc(l:List TQ):Prop where
 asc:l.Pairwise (fun x y=>eZ x.2 y.2<0∧eZ y.2 x.2≠0)
 ex:∀t∈l,Ex t.2
 len:∀t∈l,∀u∈l,t.2.length=u.2.length
def Asc.sub{l m:List TQ}(h:Asc l)(a:m.Sublist l):Asc m:=⟨h.asc.sublist a,fun t b=>h.ex t (a.subset b),fun t b u c=>h.len t (a.subset b) u (a.subset c)⟩
def ezX(a w:World)(l:List TQ)(e:Ending)(w':World):Prop:=∃A c,e= .returned (.slice A l.length c)∧TsR a w' (.slice A l.length c) l∧Below w.1.size w w'
def fxI(l:List TQ)(v:Value)(b w:World)(d:l.length<2)(hv:TsR b w v l):Calls prog 52 #[v] w (ezX b w l.reverse):=by
 have a:l.reverse=l:=by
  match l,d with
  |[],_=>rfl
  |[_],_=>rfl
 rw[a];obtain⟨A,c,rfl,e⟩:=hv.form;have f:(l.length:Int)<2:=by omega
 clear a;go_enter func52,ntmps52;go_wp2;go_ret;exact⟨A,c,rfl,hv,aG _ _⟩
def fzO:∀(n:Nat) (l:List TQ) (v:Value) (u w:World),l.length<=n->l.length<=1024->TsR u w v l->Below u.1.size u w->Asc l->Calls prog 52 #[v] w (ezX u w l.reverse):=by
 intro n;induction n with
 |zero=>exact fun l v u w h _ hv _ _=>fxI l v u w (by omega) hv
 |succ n ih=>
  intro l v u w hn hl hv V ha;by_cases h2:l.length<2
  ·exact fxI l v u w h2 hv
  obtain⟨A,c,rfl,hc⟩:=hv.form;obtain⟨t0,bm⟩:∃t,l[0]? =some t:=⟨_,aR (by omega)⟩;obtain⟨b,bs,rfl,bz, -⟩:=hv.at_ bm;obtain⟨m,hm⟩:∃m,l.length/2=m:=⟨_,rfl⟩;obtain⟨N,hN⟩:∃N,l.length-m=N:=⟨_,rfl⟩;have b2:1<=m:=by omega
  have b1:1<=N:=by omega
  have aw:l.length=m+N:=by omega
  have bn:=hv.take (m:=m) (by omega);have a1:=hv.drop (m:=m) (by omega);rw[hN] at a1;have ai:=fun W h h'=>ih (l.take m) (.slice (some ⟨b,bs,none⟩) m c) u W (by rw[bK];omega) (by rw[bK];omega) h h' (ha.sub (List.take_sublist _ _));have aj:=fun W h h'=>ih (l.drop m) (.slice (some ⟨b,bs+m*5,none⟩) N (c-m)) u W (by rw[gG];omega) (by rw[gG];omega) h h' (ha.sub (List.drop_sublist _ _));obtain⟨g,X⟩:∃g,(l.take m).reverse=g:=⟨_,rfl⟩;obtain⟨r,Z⟩:∃r,(l.drop m).reverse=r:=⟨_,rfl⟩;have bk:r++g=l.reverse:=by rw[<-X,<-Z,<-List.reverse_append,List.take_append_drop]
  have ax:g.length=m:=by rw[<-X,List.length_reverse,bK];omega
  have ay:r.length=N:=by rw[<-Z,List.length_reverse,gG];omega
  have bf:∀x∈g,x∈l:=fun x B=>by rw[<-X,List.mem_reverse] at B;exact lH B
  have bg:∀x∈r,x∈l:=fun x B=>by rw[<-Z,List.mem_reverse] at B;exact bxD B
  have ag:∀x∈g,∀y∈r,eZ x.2 y.2<0:=fun x B y hy=>by
   rw[<-X,List.mem_reverse] at B;rw[<-Z,List.mem_reverse] at hy;have h:=ha.asc;rw[<-List.take_append_drop m l,List.pairwise_append] at h;exact(h.2.2 x B y hy).1
  have U:=aB (And.intro ag (And.intro bf (And.intro bg ha)));rw[X] at ai;rw[Z] at aj;unfold ezX at ai aj;rw[ax] at ai;rw[ay] at aj;have HR:=aB bk;have P:=aB (And.intro ax ay);have hq:Int.tdiv (l.length:Int) 2=(m:Int):=by rw[<-hm];rfl
  have q1:¬(l.length:Int)<2:=by omega
  have q2:(0:Int)<=(m:Int):=by omega
  have q3:(m:Int)<=(c:Int):=by omega
  have q4:(m:Int)<=(l.length:Int):=by omega
  have q5:(l.length:Int)-(m:Int)=(N:Int):=by omega
  have q6:(c:Int)-(m:Int)=((c-m:Nat):Int):=by omega
  have q7:IntKind.i64.wrap (m:Int)=(m:Int):=IntWalk.i64_in _ ⟨by omega,by omega⟩;have q8:¬c=m:=by omega
  have q9:(l.length:Int)<=(c:Int):=by omega
  have bt:=aB aw;clear ag bf bg ha bk X Z hn ax ay aw hm h2 bm;go_enter func52,ntmps52;go_wp2_with fail;have D0:=(aG w.1.size w).drew;refine wp_region_noPanic ?_;refine wp_region_held_drew (S:=(fun w'=>True)) (by kernel_rfl) (by(try dsimp only);(try trivial)) (fun d=> ?_);refine b6 (v:= ?_) 0 12 rfl rfl (by kernel_rfl) (fun _ _ _ h=>h) (by rfl) d ?_ ?_;rotate_left;focus (intro w a;(try dsimp only at a);go_simp;(try with_reducible rfl);done)
  (try simp only[Act.put,List.setIfInBounds_toArray,bzS,List.set_cons_succ]);refine b6 (v:= ?_) 1 13 rfl rfl (by kernel_rfl) (fun _ _ _ h=>h) (by rfl) d ?_ ?_;rotate_left;focus (intro w a;(try dsimp only at a);go_simp;(try with_reducible rfl);done)
  (try simp only[Act.put,List.setIfInBounds_toArray,bzS,List.set_cons_succ]);refine b6 (v:= ?_) 2 14 rfl rfl (by kernel_rfl) (fun _ _ _ h=>h) (by rfl) d ?_ ?_;rotate_left;focus (intro w a;(try dsimp only at a);go_simp;(try with_reducible rfl);done)
  (try simp only[Act.put,List.setIfInBounds_toArray,bzS,List.set_cons_succ]);refine b6 (v:= ?_) 3 15 rfl rfl (by kernel_rfl) (fun _ _ _ h=>h) (by rfl) d ?_ ?_;rotate_left;focus (intro w a;(try dsimp only at a);go_simp;(try with_reducible rfl);done)
  (try simp only[Act.put,List.setIfInBounds_toArray,bzS,List.set_cons_succ]);refine b6 (v:= ?_) 4 16 rfl rfl (by kernel_rfl) (fun _ _ _ h=>h) (by rfl) d ?_ ?_;rotate_left;focus (intro w a;(try dsimp only at a);go_simp;(try with_reducible rfl);done)
  (try simp only[Act.put,List.setIfInBounds_toArray,bzS,List.set_cons_succ]);refine b6 (v:= ?_) 6 18 rfl rfl (by kernel_rfl) (fun _ _ _ h=>h) (by rfl) d ?_ ?_;rotate_left;focus (intro w a;(try dsimp only at a);go_simp;(try with_reducible rfl);done)
  (try simp only[Act.put,List.setIfInBounds_toArray,bzS,List.set_cons_succ]);refine b6 (v:= ?_) 7 19 rfl rfl (by kernel_rfl) (fun _ _ _ h=>h) (by rfl) d ?_ ?_;rotate_left;focus (intro w a;(try dsimp only at a);go_simp;(try with_reducible rfl);done)
  (try simp only[Act.put,List.setIfInBounds_toArray,bzS,List.set_cons_succ]);refine b6 (v:= ?_) 8 20 rfl rfl (by kernel_rfl) (fun _ _ _ h=>h) (by rfl) d ?_ ?_;rotate_left;focus (intro w a;(try dsimp only at a);go_simp;(try with_reducible rfl);done)
  (try simp only[Act.put,List.setIfInBounds_toArray,bzS,List.set_cons_succ]);refine b6 (v:= ?_) 9 21 rfl rfl (by kernel_rfl) (fun _ _ _ h=>h) (by rfl) d ?_ ?_;rotate_left;focus (intro w a;(try dsimp only at a);go_simp;(try with_reducible rfl);done)
  (try simp only[Act.put,List.setIfInBounds_toArray,bzS,List.set_cons_succ]);refine b6 (v:= ?_) 10 22 rfl rfl (by kernel_rfl) (fun _ _ _ h=>h) (by rfl) d ?_ ?_;rotate_left;focus (intro w a;(try dsimp only at a);go_simp;(try with_reducible rfl);done)
  (try simp only[Act.put,List.setIfInBounds_toArray,bzS,List.set_cons_succ]);refine wpAnyH_ready (rs:=[5]) (by kernel_rfl) (by simp) (AllReadyH.cons (o:=_) rfl (fun K L=> ?_) AllReadyH.nil);go_simp;(go_at_call 52;refine(ai _ (bn.be D0) (aC V D0)).mono ?_;rintro e1 w1 ⟨A1,c1,rfl,hA,a9⟩);have ac:=D0.trans (a9.mono aE);go_wp2_with fail;refine L.out _ _ (by(try dsimp only);(try trivial)) (fun d=> ?_);clear L K;(try simp only[Act.put,List.setIfInBounds_toArray,bzS,List.set_cons_succ]);refine wpAnyH_ready (rs:=[11]) (by kernel_rfl) (by simp) (AllReadyH.cons (o:=_) rfl (fun K L=> ?_) AllReadyH.nil);go_simp;(go_at_call 52;refine(aj _ (a1.be ac) (aC V ac)).mono ?_;rintro e2 w2 ⟨A2,c2,rfl,hB,ar⟩);replace hA:=hA.be ar;have hb:=aC ac ar;go_wp2_with fail;refine L.out _ _ (by(try dsimp only);(try trivial)) (fun d=> ?_);clear L K;(try simp only[Act.put,List.setIfInBounds_toArray,bzS,List.set_cons_succ]);refine b6 (v:= ?_) 12 3 rfl rfl (by kernel_rfl) (fun _ _ _ h=>h) (by rfl) d ?_ ?_;rotate_left;focus (intro w a;(try dsimp only at a);go_simp;(try with_reducible rfl);done)
  (try simp only[Act.put,List.setIfInBounds_toArray,bzS,List.set_cons_succ]);refine b6 (v:= ?_) 13 4 rfl rfl (by kernel_rfl) (fun _ _ _ h=>h) (by rfl) d ?_ ?_;rotate_left;focus (intro w a;(try dsimp only at a);go_simp;(try with_reducible rfl);done)
  (try simp only[Act.put,List.setIfInBounds_toArray,bzS,List.set_cons_succ]);refine wpAnyH_done (by kernel_rfl) ?_ _;refine NoPanic.normal ?_;clear a9 ac ar ai aj bn a1 hq D0 hv d;obtain⟨xa,bp⟩:∃x,g[0]? =some x:=⟨_,aR (by have:=P.out.1;omega)⟩;obtain⟨ba,oa,rfl, -, -⟩:=hA.at_ bp;obtain⟨xb,bq⟩:∃x,r[0]? =some x:=⟨_,aR (by have:=P.out.2;omega)⟩;obtain⟨bb,ob,rfl, -, -⟩:=hB.at_ bq;have aw:m+N<=1024:=by have:=bt.out;omega
  have a8:=aC V hb;clear bp bq q2 q3 q4 q5 q6 q7 q8 q9 hN bz hc ih;go_wp2_with fail;go_loopg [5,6,7] (m+N) (fun k vo vi vk wr=>∃i j:Nat,Hid (i+j+k=m+N)∧vi= .int .i64 i∧vk= .int .i64 j∧i<=m∧j<=N∧Hid (j<N->i=0)∧RowT u wr w2.1.size vo (r.take j++g.take i)∧Below w2.1.size w2 wr)
  case atStart=>exact⟨0,0,by unfold Hid;omega,rfl,rfl,dC _,dC _,fun _=>rfl,RowT.nil _ _ _,aG _ _⟩
  case round=>
   obtain⟨i,j,HJ,rfl,rfl,hi,hj,HZ,M,s⟩:=hrel;generalize wr=C at *;obtain⟨Ao,no,co,rfl⟩:∃A n c,u5= .slice A n c:=by
    obtain⟨A,c,e, -⟩:=M.form;exact⟨A,_,c,e⟩
   have i0:(0:Int)<=(i:Int):=by omega
   have j0:(0:Int)<=(j:Int):=by omega
   have bv:=aC hb s;cases gk with
   |zero=>
    have av:i=m:=by have:=HJ.out;omega
    have af:j=N:=by have:=HJ.out;omega
    subst av af;have bj:RowT u C w2.1.size (.slice Ao no co) l.reverse:=by
     rw[cZ (by rw[P.out.2];exact aE),cZ (by rw[P.out.1];exact aE),HR.out] at M;exact M
    have bw:no=l.reverse.length:=by
     obtain⟨A',c',e, -⟩:=bj.form;injection e
    have r1:¬(i:Int)<(i:Int):=by omega
    have r2:¬(j:Int)<(j:Int):=by omega
    clear M;go_wp2;go_ret;subst bw;exact⟨Ao,co,by rw[List.length_reverse];rfl,bj.tsR,bv⟩
   |succ k=>
    by_cases af:j<N
    ·have bc:i=0:=HZ.out af;obtain⟨x,B⟩:∃x,g[i]? =some x:=⟨_,aR (by have:=P.out.1;omega)⟩;obtain⟨z,O⟩:∃z,r[j]? =some z:=⟨_,aR (by have:=P.out.2;omega)⟩;obtain⟨br, -, -, -, -, -, -, -, -,A3,c3,⟨-, -, -, -,dx⟩, -,bx⟩:=hA.get B;obtain⟨ak,t1,C1,p1,e1,t2,C2,p2,e2,C3,e3,⟨G,H,I,J,E⟩,ah,am⟩:=hB.get O;have a3:=dG B;have a6:=dG O;have ag:=U.out.1 x a3 z a6;have a2:=U.out.2.1 x a3;have a5:=U.out.2.2.1 z a6;have bh:=fun W h h'=>eqX x.2 z.2 (.slice A3 x.2.length c3) (.slice C3 z.2.length e3) W h h' (U.out.2.2.2.len x a2 z a5) (U.out.2.2.2.ex x a2) (U.out.2.2.2.ex z a5);obtain⟨ov,bi⟩:∃ov,eZ x.2 z.2=ov:=⟨_,rfl⟩;rw[bi] at bh ag;have HI:=aB (And.intro bc O);have bo:=(s.cell (p:=⟨ba,_,none⟩) br).trans dx;have f:=fun (o:Nat)=>s.cell (p:=⟨bb,o,none⟩) ak;replace G:=(f _).trans G;replace H:=(f _).trans H;replace I:=(f _).trans I;replace J:=(f _).trans J;replace E:=(f _).trans E;have az:=ah.k32 (K32.be s);have al:=aC a8 s;have q1:(i:Int)<(m:Int):=by omega
     have q2:(j:Int)<(N:Int):=by omega
     have q3:((j:Int)==(N:Int))=false:=beq_eq_false_iff_ne.2 (by omega);have q4:¬(0:Int)<=ov:=by omega
     have b0:=aZ br s.size;have an:=aZ ak s.size;clear bc B O dx ag bi a3 a6 a2 a5 f ah HZ;go_wp2_with fail;have D:=(aG C.1.size C).drew;refine wp_region_noPanic ?_;refine wp_region_held_drew (S:=(fun w'=>w'.cell? ⟨ba,oa+i*5+4,none⟩=some (.slice A3 x.2.length c3)∧w'.cell? ⟨bb,ob+j*5+4,none⟩=some (.slice C3 z.2.length e3))) (by kernel_rfl) (by(try dsimp only);(exact⟨bo,E⟩)) (fun d=> ?_);refine b6 (v:= ?_) 0 34 rfl rfl (by kernel_rfl) (fun _ _ _ h=>h) (by rfl) d ?_ ?_;rotate_left;focus (intro w a;(try dsimp only at a);go_simp;(try with_reducible rfl);done)
     (try simp only[Act.put,List.setIfInBounds_toArray,bzS,List.set_cons_succ]);refine b6 (v:= ?_) 1 35 rfl rfl (by kernel_rfl) (fun _ _ _ h=>h) (by rfl) d ?_ ?_;rotate_left;focus (intro w a;(try dsimp only at a);go_simp;(try with_reducible rfl);done)
     (try simp only[Act.put,List.setIfInBounds_toArray,bzS,List.set_cons_succ]);refine b6 (v:= ?_) 2 36 rfl rfl (by kernel_rfl) (fun _ _ _ h=>h) (by rfl) d ?_ ?_;rotate_left;focus (intro w a;(try dsimp only at a);go_simp;(try with_reducible rfl);done)
     (try simp only[Act.put,List.setIfInBounds_toArray,bzS,List.set_cons_succ]);refine b6 (v:= ?_) 3 37 rfl rfl (by kernel_rfl) (fun _ _ _ h=>h) (by rfl) d ?_ ?_;rotate_left;focus (intro w a;(try dsimp only at a);go_simp;(try with_reducible rfl);done)
     (try simp only[Act.put,List.setIfInBounds_toArray,bzS,List.set_cons_succ]);refine b6 (v:= ?_) 4 38 rfl rfl (by kernel_rfl) (fun _ _ _ h=>h) (by rfl) d ?_ ?_;rotate_left;focus (intro w a;(try dsimp only at a);go_simp;(try with_reducible rfl);done)
     (try simp only[Act.put,List.setIfInBounds_toArray,bzS,List.set_cons_succ]);refine b6 (v:= ?_) 5 39 rfl rfl (by kernel_rfl) (fun _ _ _ h=>h) (by rfl) d ?_ ?_;rotate_left;focus (intro w a;(try dsimp only at a);go_simp;(try with_reducible rfl);done)
     (try simp only[Act.put,List.setIfInBounds_toArray,bzS,List.set_cons_succ]);refine b6 (v:= ?_) 6 40 rfl rfl (by kernel_rfl) (fun _ _ _ h=>h) (by rfl) d ?_ ?_;rotate_left;focus (intro w a;(try dsimp only at a);go_simp;(try with_reducible rfl);done)
     (try simp only[Act.put,List.setIfInBounds_toArray,bzS,List.set_cons_succ]);refine b6 (v:= ?_) 7 41 rfl rfl (by kernel_rfl) (fun _ _ _ h=>h) (by rfl) d ?_ ?_;rotate_left;focus (intro w a;(try dsimp only at a);go_simp;(try with_reducible rfl);done)
     (try simp only[Act.put,List.setIfInBounds_toArray,bzS,List.set_cons_succ]);refine b6 (v:= ?_) 8 42 rfl rfl (by kernel_rfl) (fun _ _ _ h=>h) (by rfl) d ?_ ?_;rotate_left;focus (intro w a;(try dsimp only at a);go_simp;(try with_reducible rfl);done)
     (try simp only[Act.put,List.setIfInBounds_toArray,bzS,List.set_cons_succ]);refine b6 (v:= ?_) 9 43 rfl rfl (by kernel_rfl) (fun _ _ _ h=>h) (by rfl) d ?_ ?_;rotate_left;focus (intro w a;(try dsimp only at a);go_simp;(try with_reducible rfl);done)
     (try simp only[Act.put,List.setIfInBounds_toArray,bzS,List.set_cons_succ]);refine b6 (v:= ?_) 10 44 rfl rfl (by kernel_rfl) (fun _ _ _ h=>h) (by rfl) d ?_ ?_;rotate_left;focus (intro w a;(try dsimp only at a);go_simp;(try with_reducible rfl);done)
     (try simp only[Act.put,List.setIfInBounds_toArray,bzS,List.set_cons_succ]);refine b6 (v:= ?_) 11 45 rfl rfl (by kernel_rfl) (fun _ _ _ h=>h) (by rfl) d ?_ ?_;rotate_left;focus (intro w a;(try dsimp only at a);go_simp;(try with_reducible rfl);done)
     (try simp only[Act.put,List.setIfInBounds_toArray,bzS,List.set_cons_succ]);refine b6 (v:= ?_) 12 46 rfl rfl (by kernel_rfl) (fun _ _ _ h=>h) (by rfl) d ?_ ?_;rotate_left;focus (intro w a;(try dsimp only at a);go_simp;(try with_reducible rfl);done)
     (try simp only[Act.put,List.setIfInBounds_toArray,bzS,List.set_cons_succ]);refine b6 (v:= ?_) 13 47 rfl rfl (by kernel_rfl) (fun _ _ _ h=>h) (by rfl) d ?_ ?_;rotate_left;focus (intro w a;(try dsimp only at a);go_simp;(try with_reducible rfl);done)
     (try simp only[Act.put,List.setIfInBounds_toArray,bzS,List.set_cons_succ]);refine b6 (v:= ?_) 14 48 rfl rfl (by kernel_rfl) (fun _ _ _ h=>h) (by rfl) d ?_ ?_;rotate_left;focus (intro w a;(try dsimp only at a);go_simp;(try with_reducible rfl);done)
     (try simp only[Act.put,List.setIfInBounds_toArray,bzS,List.set_cons_succ]);refine b6 (v:= ?_) 15 49 rfl rfl (by kernel_rfl) (fun _ _ _ h=>h) (by rfl) d ?_ ?_;rotate_left;focus (intro w a;(try dsimp only at a);go_simp;(try with_reducible rfl);done)
     (try simp only[Act.put,List.setIfInBounds_toArray,bzS,List.set_cons_succ]);refine b6 (v:= ?_) 16 50 rfl rfl (by kernel_rfl) (fun _ _ _ h=>h) (by rfl) d ?_ ?_;rotate_left;focus (intro w a;(try dsimp only at a);go_simp;(try with_reducible rfl);done)
     (try simp only[Act.put,List.setIfInBounds_toArray,bzS,List.set_cons_succ]);refine b6 (v:= ?_) 17 51 rfl rfl (by kernel_rfl) (fun _ _ _ h=>h) (by rfl) d ?_ ?_;rotate_left;focus (intro w a;(try dsimp only at a);go_simp;(try with_reducible rfl);done)
     (try simp only[Act.put,List.setIfInBounds_toArray,bzS,List.set_cons_succ]);refine b6 (v:= ?_) 18 52 rfl rfl (by kernel_rfl) (fun _ _ _ h=>h) (by rfl) d ?_ ?_;rotate_left;focus (intro w a;(try dsimp only at a);go_simp;(try with_reducible rfl);done)
     (try simp only[Act.put,List.setIfInBounds_toArray,bzS,List.set_cons_succ]);refine b6 (v:= ?_) 19 53 rfl rfl (by kernel_rfl) (fun _ _ _ h=>h) (by rfl) d ?_ ?_;rotate_left;focus (intro w a;(try dsimp only at a);go_simp;(try with_reducible rfl);done)
     (try simp only[Act.put,List.setIfInBounds_toArray,bzS,List.set_cons_succ]);refine wpAnyH_ready (rs:=[20]) (by kernel_rfl) (by simp) (AllReadyH.cons (o:=_) rfl (fun K L=> ?_) AllReadyH.nil);go_simp;(go_at_call 53;refine(bh _ (bx.be (aC al D)) (am.be (aC al D))).mono ?_;rintro e4 w4 ⟨rfl,bu⟩);have q:Below C.1.size C w4:=D.trans (bu.mono aE);go_wp2_with fail;refine L.out _ _ (by(try dsimp only);(exact⟨(q.cell (p:=⟨ba,_,none⟩) b0).trans bo,(q.cell (p:=⟨bb,_,none⟩) an).trans E⟩)) (fun d=> ?_);clear L K;(try simp only[Act.put,List.setIfInBounds_toArray,bzS,List.set_cons_succ]);refine b6 (v:= ?_) 21 55 rfl rfl (by kernel_rfl) (fun _ _ _ h=>h) (by rfl) d ?_ ?_;rotate_left;focus (intro w a;(try dsimp only at a);go_simp;(try with_reducible rfl);done)
     (try simp only[Act.put,List.setIfInBounds_toArray,bzS,List.set_cons_succ]);refine b6 (v:= ?_) 22 56 rfl rfl (by kernel_rfl) (fun _ _ _ h=>h) (by rfl) d ?_ ?_;rotate_left;focus (intro w a;(try dsimp only at a);go_simp;(try with_reducible rfl);done)
     (try simp only[Act.put,List.setIfInBounds_toArray,bzS,List.set_cons_succ]);refine b6 (v:= ?_) 23 57 rfl rfl (by kernel_rfl) (fun _ _ _ h=>h) (by rfl) d ?_ ?_;rotate_left;focus (intro w a;(try dsimp only at a);go_simp;(try with_reducible rfl);done)
     (try simp only[Act.put,List.setIfInBounds_toArray,bzS,List.set_cons_succ]);refine wpAnyH_done (by kernel_rfl) ?_ _;refine NoPanic.normal ?_;have f:=fun (o:Nat)=>q.cell (p:=⟨bb,o,none⟩) an;replace G:=(f _).trans G;replace H:=(f _).trans H;replace I:=(f _).trans I;replace J:=(f _).trans J;replace E:=(f _).trans E;obtain⟨a7,hG,T⟩:=M.be q;obtain⟨w5,e5,F,Y⟩:=bI w4 [.bool t1,.slice C1 p1 e1,.bool t2,.slice C2 p2 e2,.slice C3 z.2.length e3] 64;have R:=hG.be F;have aq:=T.k32 (K32.be F);have ab:a7.length<=1073741824:=by rw[T.1,bN,bK,bK];omega
     have a4:=az.k32 (K32.be (aC q F));have ad:=s.trans ((aC q F).mono s.size);have Q:=aB (And.intro ab ad.size);clear f ab hG T M;go_wp2_with (at_builtin;(try rw[e5]);refine yE rfl rfl 64 5 88 _ underlying51 ez9 rfl ezA (by decide) (by decide) rfl R rfl Y rfl (ezB _ _ _ _ _ _ _ _ _ _ _) Q.out.1 Q.out.2 ?_;intro v6 w6 ap _ ae _);have T6:=aq.push (K32.grown R ae) a4 am;have au:=ad.trans (R.left ae Q.out.2);have ao:r.take (j+1)++g.take (i)=(r.take j++g.take i)++[z]:=by rw[HI.out.1,byQ,fH,fH,Q9,HI.out.2,aqO]
     have a0:RowT u w6 w2.1.size v6 (r.take (j+1)++g.take (i)):=⟨_,ap,by rw[ao];exact T6⟩;go_roundg k
     case rel=>exact⟨i,j+1,by have:=HJ.out;unfold Hid;omega,rfl,by go_num,hi,af,fun _=>HI.out.1,a0,au⟩
     case measure=>omega
    ·obtain rfl:j=N:=by omega
     have av:i<m:=by have:=HJ.out;omega
     obtain⟨z,O⟩:∃z,g[i]? =some z:=⟨_,aR (by have:=P.out.1;omega)⟩;obtain⟨ak,t1,C1,p1,e1,t2,C2,p2,e2,C3,e3,⟨G,H,I,J,E⟩,ah,am⟩:=hA.get O;have HI:=aB O;have f:=fun (o:Nat)=>s.cell (p:=⟨ba,o,none⟩) ak;replace G:=(f _).trans G;replace H:=(f _).trans H;replace I:=(f _).trans I;replace J:=(f _).trans J;replace E:=(f _).trans E;have az:=ah.k32 (K32.be s);have q1:(i:Int)<(m:Int):=by omega
     have an:=aZ ak s.size;clear O f ah HZ af;go_wp2_with fail;have q:Below C.1.size C C.drew:=(aG C.1.size C).drew;refine wp_region_noPanic ?_;refine wp_region_held_drew (S:=(fun w'=>True)) (by kernel_rfl) (by(try dsimp only);(try trivial)) (fun d=> ?_);refine b6 (v:= ?_) 0 34 rfl rfl (by kernel_rfl) (fun _ _ _ h=>h) (by rfl) d ?_ ?_;rotate_left;focus (intro w a;(try dsimp only at a);go_simp;(try with_reducible rfl);done)
     (try simp only[Act.put,List.setIfInBounds_toArray,bzS,List.set_cons_succ]);refine b6 (v:= ?_) 1 35 rfl rfl (by kernel_rfl) (fun _ _ _ h=>h) (by rfl) d ?_ ?_;rotate_left;focus (intro w a;(try dsimp only at a);go_simp;(try with_reducible rfl);done)
     (try simp only[Act.put,List.setIfInBounds_toArray,bzS,List.set_cons_succ]);refine b6 (v:= ?_) 2 36 rfl rfl (by kernel_rfl) (fun _ _ _ h=>h) (by rfl) d ?_ ?_;rotate_left;focus (intro w a;(try dsimp only at a);go_simp;(try with_reducible rfl);done)
     (try simp only[Act.put,List.setIfInBounds_toArray,bzS,List.set_cons_succ]);refine b6 (v:= ?_) 3 37 rfl rfl (by kernel_rfl) (fun _ _ _ h=>h) (by rfl) d ?_ ?_;rotate_left;focus (intro w a;(try dsimp only at a);go_simp;(try with_reducible rfl);done)
     (try simp only[Act.put,List.setIfInBounds_toArray,bzS,List.set_cons_succ]);refine b6 (v:= ?_) 4 38 rfl rfl (by kernel_rfl) (fun _ _ _ h=>h) (by rfl) d ?_ ?_;rotate_left;focus (intro w a;(try dsimp only at a);go_simp;(try with_reducible rfl);done)
     (try simp only[Act.put,List.setIfInBounds_toArray,bzS,List.set_cons_succ]);refine tE 5 39 (by kernel_rfl) (fun _ _ _ h=>h) d ?_;(try simp only[Act.put,List.setIfInBounds_toArray,bzS,List.set_cons_succ]);refine tE 6 40 (by kernel_rfl) (fun _ _ _ h=>h) d ?_;(try simp only[Act.put,List.setIfInBounds_toArray,bzS,List.set_cons_succ]);refine tE 7 41 (by kernel_rfl) (fun _ _ _ h=>h) d ?_;(try simp only[Act.put,List.setIfInBounds_toArray,bzS,List.set_cons_succ]);refine tE 8 42 (by kernel_rfl) (fun _ _ _ h=>h) d ?_;(try simp only[Act.put,List.setIfInBounds_toArray,bzS,List.set_cons_succ]);refine tE 9 43 (by kernel_rfl) (fun _ _ _ h=>h) d ?_;(try simp only[Act.put,List.setIfInBounds_toArray,bzS,List.set_cons_succ]);refine tE 10 44 (by kernel_rfl) (fun _ _ _ h=>h) d ?_;(try simp only[Act.put,List.setIfInBounds_toArray,bzS,List.set_cons_succ]);refine tE 11 45 (by kernel_rfl) (fun _ _ _ h=>h) d ?_;(try simp only[Act.put,List.setIfInBounds_toArray,bzS,List.set_cons_succ]);refine tE 12 46 (by kernel_rfl) (fun _ _ _ h=>h) d ?_;(try simp only[Act.put,List.setIfInBounds_toArray,bzS,List.set_cons_succ]);refine tE 13 47 (by kernel_rfl) (fun _ _ _ h=>h) d ?_;(try simp only[Act.put,List.setIfInBounds_toArray,bzS,List.set_cons_succ]);refine tE 14 48 (by kernel_rfl) (fun _ _ _ h=>h) d ?_;(try simp only[Act.put,List.setIfInBounds_toArray,bzS,List.set_cons_succ]);refine tE 15 49 (by kernel_rfl) (fun _ _ _ h=>h) d ?_;(try simp only[Act.put,List.setIfInBounds_toArray,bzS,List.set_cons_succ]);refine tE 16 50 (by kernel_rfl) (fun _ _ _ h=>h) d ?_;(try simp only[Act.put,List.setIfInBounds_toArray,bzS,List.set_cons_succ]);refine tE 17 51 (by kernel_rfl) (fun _ _ _ h=>h) d ?_;(try simp only[Act.put,List.setIfInBounds_toArray,bzS,List.set_cons_succ]);refine tE 18 52 (by kernel_rfl) (fun _ _ _ h=>h) d ?_;(try simp only[Act.put,List.setIfInBounds_toArray,bzS,List.set_cons_succ]);refine tE 19 53 (by kernel_rfl) (fun _ _ _ h=>h) d ?_;(try simp only[Act.put,List.setIfInBounds_toArray,bzS,List.set_cons_succ]);refine tE 20 54 (by kernel_rfl) (fun _ _ _ h=>h) d ?_;(try simp only[Act.put,List.setIfInBounds_toArray,bzS,List.set_cons_succ]);refine tE 21 55 (by kernel_rfl) (fun _ _ _ h=>h) d ?_;(try simp only[Act.put,List.setIfInBounds_toArray,bzS,List.set_cons_succ]);refine tE 22 56 (by kernel_rfl) (fun _ _ _ h=>h) d ?_;(try simp only[Act.put,List.setIfInBounds_toArray,bzS,List.set_cons_succ]);refine b6 (v:= ?_) 23 57 rfl rfl (by kernel_rfl) (fun _ _ _ h=>h) (by rfl) d ?_ ?_;rotate_left;focus (intro w a;(try dsimp only at a);go_simp;(try with_reducible rfl);done)
     (try simp only[Act.put,List.setIfInBounds_toArray,bzS,List.set_cons_succ]);refine wpAnyH_done (by kernel_rfl) ?_ _;refine NoPanic.normal ?_;generalize C.drew=w4 at *;have f:=fun (o:Nat)=>q.cell (p:=⟨ba,o,none⟩) an;replace G:=(f _).trans G;replace H:=(f _).trans H;replace I:=(f _).trans I;replace J:=(f _).trans J;replace E:=(f _).trans E;obtain⟨a7,hG,T⟩:=M.be q;obtain⟨w5,e5,F,Y⟩:=bI w4 [.bool t1,.slice C1 p1 e1,.bool t2,.slice C2 p2 e2,.slice C3 z.2.length e3] 64;have R:=hG.be F;have aq:=T.k32 (K32.be F);have ab:a7.length<=1073741824:=by rw[T.1,bN,bK,bK];omega
     have a4:=az.k32 (K32.be (aC q F));have ad:=s.trans ((aC q F).mono s.size);have Q:=aB (And.intro ab ad.size);clear f ab hG T M;go_wp2_with (at_builtin;(try rw[e5]);refine yE rfl rfl 64 5 88 _ underlying51 ez9 rfl ezA (by decide) (by decide) rfl R rfl Y rfl (ezB _ _ _ _ _ _ _ _ _ _ _) Q.out.1 Q.out.2 ?_;intro v6 w6 ap _ ae _);have T6:=aq.push (K32.grown R ae) a4 am;have au:=ad.trans (R.left ae Q.out.2);have ao:r.take (j)++g.take (i+1)=(r.take j++g.take i)++[z]:=by rw[Q9,HI.out,aqO,eK]
     have a0:RowT u w6 w2.1.size v6 (r.take (j)++g.take (i+1)):=⟨_,ap,by rw[ao];exact T6⟩;go_roundg k
     case rel=>exact⟨i+1,j,by have:=HJ.out;unfold Hid;omega,by go_num,rfl,av,hj,fun h=>absurd h (Nat.lt_irrefl _),a0,au⟩
     case measure=>omega
section
variable {P:Program}{md:Region.Mode}{ops:Array Oper}{Q:Exit->Act->World->Prop}{S:World->Prop}{k i:Nat}{oi:Oper}{v:Value}{fuel:Nat}{listed:Array Bool}{a:Act}{w:World}
def G8(P:Program)(md:Region.Mode)(ops:Array Oper)(Q:Exit->Act->World->Prop)(S:World->Prop)(k:Nat):Nat->Array Bool->Act->World->Prop
 |0,l,a,w=>Region.ready md ops l=[]∧Q .normal a w
 |n+1,l,a,w=>(Region.ready md ops l=[]->Q .normal a w)∧∀i∈Region.ready md ops l,wpOp P ops Q i (fun b w'=>(i=k∨S w')∧G8 P md ops Q S k n (l.setIfInBounds i true) b w') a w
def fy7:∀(n:Nat) (l:Array Bool) (a:Act) (w:World),G8 P md ops Q S k n l a w->wpAny P md ops Q n l a w
 |0,_,_,_,h=>h
 |n+1,_,_,_,h=>⟨h.1,fun i hi=>wpOp_mono (fun b w' c=>fy7 n _ b w' c.2) (h.2 i hi)⟩
def Waits(md:Region.Mode)(ops:Array Oper)(i:Nat)(C:List Nat):Bool:=C.all fun c=>match ops[c]? with
 |some o=>o.after.any fun e=>Region.binds md e&&(e.on==i||C.contains e.on)
 |none=>false
def fx1(md:Region.Mode)(ops:Array Oper)(i:Nat):List Nat:=(List.range ops.size).foldl (fun C c=>match ops[c]? with
 |some o=>if (o.after.any fun e=>Region.binds md e&&(e.on==i||C.contains e.on))=true then C++[c] else C
 |none=>C) []
def Waits.not_ready(h:Waits md ops i C=true){l:Array Bool}(hi:l.getD i true=false)(n:∀c∈C,l.getD c true=false)(r:j∈Region.ready md ops l):j ∉ C:=fun s=>by
 have m:=List.all_eq_true.1 h j s;obtain⟨-,o,t,p⟩:=mem_ready.1 r;rw[t] at m;obtain⟨e,q,d⟩:=Array.any_eq_true'.1 m;simp only[az7,Bool.or_eq_true,beq_iff_eq,List.contains_iff_mem] at d;have f:=p e q d.1;have g:l.getD e.on true=false:=by
  rcases d.2 with h|h
  ·rw[h];exact hi
  ·exact n _ h
 rcases dE e.on l.size with b|b
 ·simp[b] at f g;rw[f] at g;cases g
 ·simp[Array.getElem?_eq_none b] at f
def fqT(M:Waits md ops i C=true)(V:k∈C)(hi:ops[i]? =some oi)(I:∀(j:Nat) (o:Oper) cs b,ops[j]? =some o->o.op≠ .select cs b)(L:∀c a w,Q (.panic c) (a.put oi.dst v) w->Q (.panic c) a w):
  ∀(n:Nat) (l:Array Bool) (a:Act) (w:World),(∀c∈C,l.getD c true=false)->(∀j g,ops[j]? =some g->j≠i->l.getD j true=false->(∀e∈g.after,Region.binds md e=true->e.on≠i)->oi.apart ops g=true)->
   i∈Region.ready md ops l->YieldsIf P ops S oi v a->S w->G8 P md ops Q S k n (l.setIfInBounds i true) (a.put oi.dst v) w->G8 P md ops Q S k (n+1) l a w:=by
 intro n;induction n with
 |zero=>
  intro l a w _ _ f s q H;refine⟨fun h=>(by rw[h] at f;cases f),fun j r=> ?_⟩;by_cases d:j=i
  ·subst d;exact s.wpOp hi q ⟨.inr q,H⟩
  ·have:=ready_mono r d;rw[H.1] at this;cases this
 |succ n ih=>
  intro l a w z D f s q H;refine⟨fun h=>(by rw[h] at f;cases f),fun j r=> ?_⟩;by_cases d:j=i
  ·subst d;exact s.wpOp hi q ⟨.inr q,H⟩
  ·have E:=Waits.not_ready M (mem_ready.1 f).1 z r;have U:j≠k:=fun e=>E (e ▸ V);obtain⟨G,g,x,N⟩:=mem_ready.1 r;have Z:∀e∈g.after,Region.binds md e=true->e.on≠i:=fun e R O T=>by
    have p:=N e R O;have y:=(mem_ready.1 f).1;rw[T] at p;rcases dE i l.size with t|t
    ·simp[t] at y p;rw[y] at p;cases p
    ·simp[Array.getElem?_eq_none t] at p
   have K:=wpOp_putIf x (D j g x d G Z) (fun cs b=>I i oi cs b hi) (fun cs b=>I j g cs b x) L s (H.2 j (ready_mono r d));refine wpOp_mono (fun J w' u=> ?_) K;have A:=u.2.1.resolve_left U;refine⟨.inr A,ih (l.setIfInBounds j true) J w' (fun c B=> ?_) (fun m om W X ab Y=> ?_) (ready_mono f (Ne.symm d)) u.1 A ?_⟩
   ·rw[getD_set_ne true (show j≠c from fun e=>E (e ▸ B))];exact z c B
   ·refine D m om W X ?_ Y;by_cases F:j=m
    ·subst F;exact G
    ·rwa [getD_set_ne true F] at ab
   ·rw[Array.setIfInBounds_comm _ _ d];exact u.2.2
def fy8(md:Region.Mode)(ops:Array Oper)(l:Array Bool)(i k:Nat):Bool:=Region.noSelect ops&&(Region.free md ops l i&&((Region.ready md ops l).contains i&&(Waits md ops i (fx1 md ops i)&&((fx1 md ops i).contains k&&(fx1 md ops i).all fun c=> !(l.getD c true)))))
def lP(i d:Nat)(hi:ops[i]? =some oi)(p:oi.dst=some d)(b:fy8 md ops listed i k=true)
  (e:∀c a w,Q (.panic c) (a.put (some d) v) w->Q (.panic c) a w)(q:Region.wanted oi (yielded ops a.tmps)=true)(o:S w)(r:∀w,S w->(execOp a.eval oi).run P w= .ok (.value v) w)
  (h:G8 P md ops Q S k fuel (listed.setIfInBounds i true) (a.put (some d) v) w):G8 P md ops Q S k (fuel+1) listed a w:=by
 unfold fy8 at b;simp only[az7,List.all_eq_true,Bool.not_eq_true'] at b;obtain⟨f,g,j,l,m,n⟩:=b;rw[<-p] at e h;exact fqT l (by simpa using m) hi (Region.noSelect_spec f) e fuel listed a w n (Region.free_spec hi g) (by simpa using j) (.inl ⟨q,r⟩) o h
def fy9{l:Array Bool}(b:Region.ready md ops l=[])(h:Q .normal a w):∀n,G8 P md ops Q S k n l a w
 |0=>⟨b,h⟩
 |_+1=>⟨fun _=>h,by rw[b];simp⟩
def AllU(P:Program)(md:Region.Mode)(ops:Array Oper)(Q:Exit->Act->World->Prop)(S:World->Prop)(k fuel:Nat)(listed:Array Bool)(a:Act)(w:World)(rs:List Nat):Prop:=
 ∀i∈rs,wpOp P ops Q i (fun c b=>(i=k∨S b)∧G8 P md ops Q S k fuel (listed.setIfInBounds i true) c b) a w
def AllU.nil:AllU P md ops Q S k fuel listed a w []:=fun _ h=>by cases h
def AllU.cons{o:Oper}(g:ops[i]? =some o)
  (h:∀b:Act->World->Prop,Shut (∀a w,S w->(S w->G8 P md ops Q S k fuel (listed.setIfInBounds i true) a w)->b a w)->if Region.wanted o (yielded ops a.tmps)=true then Oper.wp P o a w b Q else b (a.put o.dst undef) w)
  (l:AllU P md ops Q S k fuel listed a w rs):AllU P md ops Q S k fuel listed a w (i :: rs):=fun j c=>by
 rcases List.mem_cons.1 c with rfl|c
 ·refine wpOp_step g ?_;exact fun b e=>h b fun a w d f=>e a w ⟨.inr d,f d⟩
 ·exact l j c
def AllU.last{o:Oper}(f:ops[k]? =some o)
  (h:∀b:Act->World->Prop,Shut (∀a w,G8 P md ops Q S k fuel (listed.setIfInBounds k true) a w->b a w)->if Region.wanted o (yielded ops a.tmps)=true then Oper.wp P o a w b Q else b (a.put o.dst undef) w):AllU P md ops Q S k fuel listed a w [k]:=fun j c=>by
 rcases List.mem_cons.1 c with rfl|c
 ·refine wpOp_step f ?_;exact fun b d=>h b fun a w e=>d a w ⟨.inl rfl,e⟩
 ·cases c
def L8(b:Region.ready md ops listed=rs)(d:rs≠[])(h:AllU P md ops Q S k fuel listed a w rs):G8 P md ops Q S k (fuel+1) listed a w:=⟨fun c=>absurd (b ▸ c) d,b ▸ h⟩
def fyA(k:Nat)(c:P.follows .mixedOrders=true)(b:S w.drew)(h:S w.drew->G8 P .any ops Q S k ops.size (Array.replicate ops.size false) a w.drew):(Code.region d ops true).wp P Q a w:=
 wp_region_any c (fy7 _ _ _ _ (h b))
end
def F8(l:List TQ):List TQ:=l.filter fun t=>decide (t.1≠0)
def fzM(a w:World)(vars:Int)(l:List TQ)(e:Ending)(w':World):Prop:=∃A n c,e= .returned (.agg #[.int .i64 vars,.slice A n c])∧RowT a w' w.1.size (.slice A n c) l∧Below w.1.size w w'
def fxH{s:List TQ}{t:TQ}(h:s[j]? =some t):F8 (s.take (j+1))=F8 (s.take j)++(if t.1=0 then [] else [t]):=by
 unfold F8;rw[Q9,h,aqO,List.filter_append];congr 1;by_cases a:t.1=0<;>simp[a]
def fzN(vars:Int)(l:List TQ)(v:Value)(T w:World)(hl:l.length<=1024)(hv:TsR T w v l)(ag:Below T.1.size T w)(ha:Asc l)(r:∀t∈l,nl t.1.num.natAbs<=1099511627776):
  Calls prog 28 #[.int .i64 vars,v] w (fzM T w vars (F8 l.reverse)):=by
 obtain⟨A,c,rfl,hc⟩:=hv.form;have an:=fun W h h'=>fzO l.length l (.slice A l.length c) T W aE hl h h' ha;obtain⟨s,hs⟩:∃s,l.reverse=s:=⟨_,rfl⟩;have bp:s.length=l.length:=by rw[<-hs,List.length_reverse]
 have bm:s.Pairwise (fun x y=>eZ x.2 y.2≠0):=by
  rw[<-hs,List.pairwise_reverse];exact ha.asc.imp fun h=>h.2
 have bj:∀x∈s,x∈l:=fun x hx=>by rw[<-hs,List.mem_reverse] at hx;exact hx
 have bk:∀i x y,s[i]? =some x->s[i+1]? =some y->eZ x.2 y.2≠0:=fun i x y hx hy=>by
  obtain⟨l1,e1⟩:=List.getElem?_eq_some_iff.1 hx;obtain⟨l2,e2⟩:=List.getElem?_eq_some_iff.1 hy;have:=List.pairwise_iff_getElem.1 bm i (i+1) l1 l2 (by omega);rwa [e1,e2] at this
 rw[hs] at an;rw[hs];unfold ezX at an;have X:=aB (And.intro bk (And.intro bj (And.intro ha r)));clear hs bm bj bk ha r;obtain⟨W,eW,m,R⟩:=bI w [.int .i64 0,.slice none 0 0] 53;have cM:=R.g2;go_enter func28,ntmps28;go_wp2_with fail;(try rw[eW]);clear eW;refine(an _ (hv.be m) (aC ag m)).mono ?_;rintro e1 q ⟨A1,c1,rfl,d,aw⟩;replace R:=R.be aw;replace cM:=R.g2;replace m:=aC m aw;have lR:w.1.size<q.1.size:=R.lt;have bb:=aC ag m;obtain⟨U,e2,al,O⟩:=bI q [.int .i64 vars,.slice none 0 0] 53;have cn:s.length<=1024:=by omega
 have ck:=aB bp;have bw:=aB e2;clear e2 bp;have lO:q.1.size<U.1.size:=O.lt;go_wp2_with fail;rw[bw.out];replace R:=R.be al;replace cM:=R.g2;replace m:=aC m al;clear an hv ag;go_loopg [7] s.length (fun k vi wr=>∃(j:Nat) (L:Option Addr) (Q M:Nat),Hid (j+k=s.length)∧vi= .int .i64 j∧RowT T wr U.1.size (.slice L Q M) (F8 (s.take j))∧Bx wr w.1.size [.int .i64 0,.slice none 0 0] 53∧Bx wr q.1.size [.int .i64 vars,.slice L Q M] 53∧Below q.1.size q wr∧Below w.1.size w wr∧U.1.size<=wr.1.size)
 case atStart=>exact⟨0,none,0,0,by unfold Hid;omega,rfl,RowT.nil _ _ _,R,O,al,m,aE⟩
 case round=>
  clear R O m cM aw al;obtain⟨j,L,Q,M,HJ,rfl,u,R,O,ac,m,br⟩:=hrel;generalize wr=wy at *;have cM:=aa R.g2 O.g2;have cm:(0:Int)<=(j:Int):=by omega
  cases gk with
  |zero=>
   have hj:j=s.length:=HJ.out;have bo:RowT T wy U.1.size (.slice L Q M) (F8 s):=by rw[hj,aq9] at u;exact u
   subst hj;clear u;go_wp2_with fail;obtain⟨W6,e6,R6,H,b5,b3⟩:=R.st2 m aE (fun k z e=>by cases e) (.int .i64 vars) (.slice L Q M);rw[e6];have b9:RowT T W6 w.1.size (.slice L Q M) (F8 s):=by
    have b7:=bo.lt;obtain⟨a4,r1,r2⟩:=bo.kept b5 (fun g e=>b3 g (by have:=(b7 g e).1;omega));exact⟨a4,r1.lower (by omega),r2⟩
   exact aM (v:= .agg #[.int .i64 vars,.slice L Q M]) (by simp[results,results28,go_sem,R6.k2]) rfl ⟨_,_,_,rfl,b9,H⟩
  |succ k=>
   have b4:j<s.length:=by have:=HJ.out;omega
   have q1:(j:Int)<(s.length:Int):=by omega
   obtain⟨t,ht⟩:∃t,s[j]? =some t:=⟨_,aR b4⟩;obtain⟨b,ap,rfl, -, -⟩:=d.at_ ht;obtain⟨ai,s1,B1,k1,d1,s2,B2,k2,d2,B3,d3,⟨c0,ar,c2,c3,B⟩,P,bq⟩:=d.get ht;have ad:=fun (o:Nat)=>ac.cell (p:=⟨b,o,none⟩) ai;replace c0:=(ad _).trans c0;replace ar:=(ad _).trans ar;replace c2:=(ad _).trans c2;replace c3:=(ad _).trans c3;replace B:=(ad _).trans B;replace P:=P.k32 (K32.be ac);have a2:=dG ht;have a0:=fun W h=>oC t.1 (.agg #[.bool s1,.slice B1 k1 d1,.bool s2,.slice B2 k2 d2]) W h (X.out.2.2.2 t (X.out.2.1 t a2));have HT:=aB (And.intro ht a2);obtain⟨sg,az⟩:∃sg,t.1.num.sign=sg:=⟨_,rfl⟩;rw[az] at a0;have a7:=aB az;clear ht a2 ad az;go_upto_region 6 with fail;obtain⟨w4,e4,Z,C⟩:=bI wy [.bool s1,.slice B1 k1 d1,.bool s2,.slice B2 k2 d2] 62;(try rw[e4]);clear e4;have ab:=aC ac Z;have cb:=u.lt;replace u:=u.be Z;replace R:=R.be Z;replace O:=O.be Z;replace m:=aC m Z;replace P:=P.k32 (K32.be Z);have ao:b<w4.1.size:=aZ ai ab.size;have ci:b<wy.1.size:=aZ ai ac.size;replace B:=(Z.cell (p:=⟨b,_,none⟩) ci).trans B;obtain⟨J,hJ⟩:∃J:Nat,j+1=J:=⟨_,rfl⟩;have qw:IntKind.i64.wrap ((j:Int)+1)=(J:Int):=(IntWalk.i64_in _ ⟨by omega,by omega⟩).trans (by omega);have aq:=aB hJ;have lJ:J<=s.length:=by omega
   clear ac Z cM c0 ar c2 c3;clear hJ;go_wp2_with fail;clear qw;go_loopg [9] 0 (fun k vk wr=>vk= .int .i64 (J:Int)∧w4=wr)
   case atStart=>exact⟨by go_num,rfl⟩
   case round=>
    obtain⟨rfl,rfl⟩:=hrel;have q3:(0:Int)<=(J:Int):=by omega
    have D:=(aG w4.1.size w4).drew;rcases(show J<s.length∨J=s.length by omega) with h1|h1
    focus (
     obtain⟨y,hy⟩:∃y,s[J]? =some y:=⟨_,aR h1⟩;obtain⟨ch, -, -, -, -, -, -, -, -,a5,ba,⟨-, -, -, -,y4⟩, -,cd⟩:=d.get hy;replace y4:=(ab.cell (p:=⟨b,_,none⟩) ch).trans y4;have a1:=X.out.2.1 t HT.out.2;have a3:=X.out.2.1 y (dG hy);have ax:=fun W h h'=>eqX t.2 y.2 (.slice B3 t.2.length d3) (.slice a5 y.2.length ba) W h h' (X.out.2.2.1.len t a1 y a3) (X.out.2.2.1.ex t a1) (X.out.2.2.1.ex y a3);obtain⟨ov,ay⟩:∃ov,eZ t.2 y.2=ov:=⟨_,rfl⟩;rw[ay] at ax;have q4:(ov==0)=false:=beq_eq_false_iff_ne.2 (by rw[<-ay];exact X.out.1 j t y HT.out.1 (by rw[aq.out];exact hy));have q2:(J:Int)<(s.length:Int):=by omega
     have bc:=bb.trans ((aC ab D).mono bb.size);clear ay hy a1 a3;go_wp2_with fail;refine wp_region_noPanic ?_;refine wp_region_held_drew (S:=(fun w'=>w'.cell? ⟨b,ap+j*5+4,none⟩=some (.slice B3 t.2.length d3)∧w'.cell? ⟨b,ap+J*5+4,none⟩=some (.slice a5 y.2.length ba))) (by kernel_rfl) (by(try dsimp only);(exact⟨B,y4⟩)) (fun f=> ?_);refine b6 (v:= ?_) 0 25 rfl rfl (by kernel_rfl) (fun _ _ _ h=>h) (by rfl) f ?_ ?_;rotate_left;focus (intro w d;(try dsimp only at d);go_simp;(try with_reducible rfl);done)
     (try simp only[Act.put,List.setIfInBounds_toArray,bzS,List.set_cons_succ]);refine b6 (v:= ?_) 1 26 rfl rfl (by kernel_rfl) (fun _ _ _ h=>h) (by rfl) f ?_ ?_;rotate_left;focus (intro w d;(try dsimp only at d);go_simp;(try with_reducible rfl);done)
     (try simp only[Act.put,List.setIfInBounds_toArray,bzS,List.set_cons_succ]);refine b6 (v:= ?_) 2 27 rfl rfl (by kernel_rfl) (fun _ _ _ h=>h) (by rfl) f ?_ ?_;rotate_left;focus (intro w d;(try dsimp only at d);go_simp;(try with_reducible rfl);done)
     (try simp only[Act.put,List.setIfInBounds_toArray,bzS,List.set_cons_succ]);refine b6 (v:= ?_) 3 28 rfl rfl (by kernel_rfl) (fun _ _ _ h=>h) (by rfl) f ?_ ?_;rotate_left;focus (intro w d;(try dsimp only at d);go_simp;(try with_reducible rfl);done)
     (try simp only[Act.put,List.setIfInBounds_toArray,bzS,List.set_cons_succ]);refine b6 (v:= ?_) 4 29 rfl rfl (by kernel_rfl) (fun _ _ _ h=>h) (by rfl) f ?_ ?_;rotate_left;focus (intro w d;(try dsimp only at d);go_simp;(try with_reducible rfl);done)
     (try simp only[Act.put,List.setIfInBounds_toArray,bzS,List.set_cons_succ]);refine b6 (v:= ?_) 5 30 rfl rfl (by kernel_rfl) (fun _ _ _ h=>h) (by rfl) f ?_ ?_;rotate_left;focus (intro w d;(try dsimp only at d);go_simp;(try with_reducible rfl);done)
     (try simp only[Act.put,List.setIfInBounds_toArray,bzS,List.set_cons_succ]);refine b6 (v:= ?_) 6 31 rfl rfl (by kernel_rfl) (fun _ _ _ h=>h) (by rfl) f ?_ ?_;rotate_left;focus (intro w d;(try dsimp only at d);go_simp;(try with_reducible rfl);done)
     (try simp only[Act.put,List.setIfInBounds_toArray,bzS,List.set_cons_succ]);refine b6 (v:= ?_) 7 32 rfl rfl (by kernel_rfl) (fun _ _ _ h=>h) (by rfl) f ?_ ?_;rotate_left;focus (intro w d;(try dsimp only at d);go_simp;(try with_reducible rfl);done)
     (try simp only[Act.put,List.setIfInBounds_toArray,bzS,List.set_cons_succ]);refine b6 (v:= ?_) 8 33 rfl rfl (by kernel_rfl) (fun _ _ _ h=>h) (by rfl) f ?_ ?_;rotate_left;focus (intro w d;(try dsimp only at d);go_simp;(try with_reducible rfl);done)
     (try simp only[Act.put,List.setIfInBounds_toArray,bzS,List.set_cons_succ]);refine b6 (v:= ?_) 9 34 rfl rfl (by kernel_rfl) (fun _ _ _ h=>h) (by rfl) f ?_ ?_;rotate_left;focus (intro w d;(try dsimp only at d);go_simp;(try with_reducible rfl);done)
     (try simp only[Act.put,List.setIfInBounds_toArray,bzS,List.set_cons_succ]);refine b6 (v:= ?_) 10 35 rfl rfl (by kernel_rfl) (fun _ _ _ h=>h) (by rfl) f ?_ ?_;rotate_left;focus (intro w d;(try dsimp only at d);go_simp;(try with_reducible rfl);done)
     (try simp only[Act.put,List.setIfInBounds_toArray,bzS,List.set_cons_succ]);refine b6 (v:= ?_) 11 36 rfl rfl (by kernel_rfl) (fun _ _ _ h=>h) (by rfl) f ?_ ?_;rotate_left;focus (intro w d;(try dsimp only at d);go_simp;(try with_reducible rfl);done)
     (try simp only[Act.put,List.setIfInBounds_toArray,bzS,List.set_cons_succ]);refine b6 (v:= ?_) 12 37 rfl rfl (by kernel_rfl) (fun _ _ _ h=>h) (by rfl) f ?_ ?_;rotate_left;focus (intro w d;(try dsimp only at d);go_simp;(try with_reducible rfl);done)
     (try simp only[Act.put,List.setIfInBounds_toArray,bzS,List.set_cons_succ]);refine b6 (v:= ?_) 13 38 rfl rfl (by kernel_rfl) (fun _ _ _ h=>h) (by rfl) f ?_ ?_;rotate_left;focus (intro w d;(try dsimp only at d);go_simp;(try with_reducible rfl);done)
     (try simp only[Act.put,List.setIfInBounds_toArray,bzS,List.set_cons_succ]);refine b6 (v:= ?_) 14 39 rfl rfl (by kernel_rfl) (fun _ _ _ h=>h) (by rfl) f ?_ ?_;rotate_left;focus (intro w d;(try dsimp only at d);go_simp;(try with_reducible rfl);done)
     (try simp only[Act.put,List.setIfInBounds_toArray,bzS,List.set_cons_succ]);refine wpAnyH_ready (rs:=[15]) (by kernel_rfl) (by simp) (AllReadyH.cons (o:=_) rfl (fun K r=> ?_) AllReadyH.nil);go_simp;(go_at_call 53;refine(ax _ (bq.be bc) (cd.be bc)).mono ?_;rintro e5 w5 ⟨rfl,bf⟩);have E:Below w4.1.size w4 w5:=D.trans (bf.mono aE);go_wp2_with fail;refine r.out _ _ (by(try dsimp only);(exact⟨(E.cell (p:=⟨b,_,none⟩) ao).trans B,(E.cell (p:=⟨b,_,none⟩) ao).trans y4⟩)) (fun f=> ?_);clear r K;(try simp only[Act.put,List.setIfInBounds_toArray,bzS,List.set_cons_succ]);refine b6 (v:= ?_) 16 41 rfl rfl (by kernel_rfl) (fun _ _ _ h=>h) (by rfl) f ?_ ?_;rotate_left;focus (intro w d;(try dsimp only at d);go_simp;(try with_reducible rfl);done)
     (try simp only[Act.put,List.setIfInBounds_toArray,bzS,List.set_cons_succ]);refine b6 (v:= ?_) 17 42 rfl rfl (by kernel_rfl) (fun _ _ _ h=>h) (by rfl) f ?_ ?_;rotate_left;focus (intro w d;(try dsimp only at d);go_simp;(try with_reducible rfl);done)
     (try simp only[Act.put,List.setIfInBounds_toArray,bzS,List.set_cons_succ]);refine wpAnyH_done (by kernel_rfl) ?_ _;refine NoPanic.normal ?_;clear bf ax q2 q4 D h1;go_upto_region 10 with fail)
    rotate_left
    focus (
     have q2:¬(J:Int)<(s.length:Int):=by omega
     have E:=D;have q5:¬J<s.length:=by omega
     have q6:decide (J<s.length)=false:=decide_eq_false q5;clear h1;go_wp2_with fail;refine wp_region_noPanic ?_;refine wp_region_held_drew (S:=(fun w'=>True)) (by kernel_rfl) (by(try dsimp only);(try trivial)) (fun f=> ?_);refine b6 (v:= ?_) 0 25 rfl rfl (by kernel_rfl) (fun _ _ _ h=>h) (by rfl) f ?_ ?_;rotate_left;focus (intro w d;(try dsimp only at d);go_simp;(try with_reducible rfl);done)
     (try simp only[Act.put,List.setIfInBounds_toArray,bzS,List.set_cons_succ]);refine b6 (v:= ?_) 1 26 rfl rfl (by kernel_rfl) (fun _ _ _ h=>h) (by rfl) f ?_ ?_;rotate_left;focus (intro w d;(try dsimp only at d);go_simp;(try with_reducible rfl);done)
     (try simp only[Act.put,List.setIfInBounds_toArray,bzS,List.set_cons_succ]);refine b6 (v:= ?_) 2 27 rfl rfl (by kernel_rfl) (fun _ _ _ h=>h) (by rfl) f ?_ ?_;rotate_left;focus (intro w d;(try dsimp only at d);go_simp;(try with_reducible rfl);done)
     (try simp only[Act.put,List.setIfInBounds_toArray,bzS,List.set_cons_succ]);refine b6 (v:= ?_) 3 28 rfl rfl (by kernel_rfl) (fun _ _ _ h=>h) (by rfl) f ?_ ?_;rotate_left;focus (intro w d;(try dsimp only at d);go_simp;(try with_reducible rfl);done)
     (try simp only[Act.put,List.setIfInBounds_toArray,bzS,List.set_cons_succ]);refine b6 (v:= ?_) 4 29 rfl rfl (by kernel_rfl) (fun _ _ _ h=>h) (by rfl) f ?_ ?_;rotate_left;focus (intro w d;(try dsimp only at d);go_simp;(try with_reducible rfl);done)
     (try simp only[Act.put,List.setIfInBounds_toArray,bzS,List.set_cons_succ]);refine tE 5 30 (by kernel_rfl) (fun _ _ _ h=>h) f ?_;(try simp only[Act.put,List.setIfInBounds_toArray,bzS,List.set_cons_succ]);refine tE 6 31 (by kernel_rfl) (fun _ _ _ h=>h) f ?_;(try simp only[Act.put,List.setIfInBounds_toArray,bzS,List.set_cons_succ]);refine tE 7 32 (by kernel_rfl) (fun _ _ _ h=>h) f ?_;(try simp only[Act.put,List.setIfInBounds_toArray,bzS,List.set_cons_succ]);refine tE 8 33 (by kernel_rfl) (fun _ _ _ h=>h) f ?_;(try simp only[Act.put,List.setIfInBounds_toArray,bzS,List.set_cons_succ]);refine tE 9 34 (by kernel_rfl) (fun _ _ _ h=>h) f ?_;(try simp only[Act.put,List.setIfInBounds_toArray,bzS,List.set_cons_succ]);refine tE 10 35 (by kernel_rfl) (fun _ _ _ h=>h) f ?_;(try simp only[Act.put,List.setIfInBounds_toArray,bzS,List.set_cons_succ]);refine tE 11 36 (by kernel_rfl) (fun _ _ _ h=>h) f ?_;(try simp only[Act.put,List.setIfInBounds_toArray,bzS,List.set_cons_succ]);refine tE 12 37 (by kernel_rfl) (fun _ _ _ h=>h) f ?_;(try simp only[Act.put,List.setIfInBounds_toArray,bzS,List.set_cons_succ]);refine tE 13 38 (by kernel_rfl) (fun _ _ _ h=>h) f ?_;(try simp only[Act.put,List.setIfInBounds_toArray,bzS,List.set_cons_succ]);refine tE 14 39 (by kernel_rfl) (fun _ _ _ h=>h) f ?_;(try simp only[Act.put,List.setIfInBounds_toArray,bzS,List.set_cons_succ]);refine tE 15 40 (by kernel_rfl) (fun _ _ _ h=>h) f ?_;(try simp only[Act.put,List.setIfInBounds_toArray,bzS,List.set_cons_succ]);refine tE 16 41 (by kernel_rfl) (fun _ _ _ h=>h) f ?_;(try simp only[Act.put,List.setIfInBounds_toArray,bzS,List.set_cons_succ]);refine b6 (v:= ?_) 17 42 rfl rfl (by kernel_rfl) (fun _ _ _ h=>h) (by rfl) f ?_ ?_;rotate_left;focus (intro w d;(try dsimp only at d);go_simp;(try with_reducible rfl);done)
     (try simp only[Act.put,List.setIfInBounds_toArray,bzS,List.set_cons_succ]);refine wpAnyH_done (by kernel_rfl) ?_ _;refine NoPanic.normal ?_;clear D q2 q5 q6;generalize w4.drew=w5 at *;go_upto_region 10 with fail)
    all_goals (
     have am:=aC ab E;replace u:=u.be E;replace R:=R.be E;replace O:=O.be E;replace C:=C.be E;replace m:=aC m E;replace P:=P.k32 (K32.be E);replace B:=(E.cell (p:=⟨b,_,none⟩) ao).trans B;have bt:b<w5.1.size:=aZ ai am.size;have cM:=aa C.k4 (aa O.g2 R.g2);clear ab E ao;go_wp2_with fail;refine(a0 _ P).mono ?_;rintro e6 w6 ⟨rfl,H⟩;have ah:=aC am H;replace u:=u.be H;replace R:=R.be H;replace O:=O.be H;replace C:=C.be H;replace m:=aC m H;replace P:=P.k32 (K32.be H);replace B:=(H.cell (p:=⟨b,_,none⟩) bt).trans B;have bu:b<w6.1.size:=aZ ai ah.size;clear cM am H bt a0;by_cases af:t.1=0
     ·have cc:sg=0:=by rw[<-a7.out,af];rfl
      subst cc;have ca:RowT T w6 U.1.size (.slice L Q M) (F8 (s.take (j+1))):=by rw[fxH HT.out.1,if_pos af,fH];exact u
      clear af u;go_wp2;go_roundg k
      case rel=>exact⟨j+1,L,Q,M,by have:=HJ.out;unfold Hid;omega,by have:=aq.out;go_num,ca,R,O,ah,m,aH br (iE C.lt)⟩
      case measure=>omega
     ·have z1:(sg != 0)=true:=bne_iff_ne.2 (fun h=>af (Rat.num_eq_zero.1 (Int.sign_eq_zero_iff_zero.1 (a7.out.trans h))));have bv:=aB af;clear af;go_wp2_with fail;have D:=(aG w6.1.size w6).drew;obtain⟨w8,e8,bg,Y⟩:=bI w6.drew [.bool s1,.slice B1 k1 d1,.bool s2,.slice B2 k2 d2,.slice B3 t.2.length d3] 64;have N:Below w6.1.size w6 w8:=D.trans (bg.mono aE);have O8:=O.be N;have C8:=C.be N;have R8:=R.be N;have au:=(N.cell (p:=⟨b,_,none⟩) bu).trans B;have bn:=P.k32 (K32.be N);obtain⟨a4,hG,av⟩:=u.be N;have bh:=aC ah N;have bi:=aC m N;have b0:a4.length<=1073741824:=by
       rw[av.1];unfold F8;have:=List.length_filter_le (fun t:TQ=>decide (t.1≠0)) (s.take j);rw[bK] at this;omega
      obtain⟨A0,cl,e0, -⟩:=hG.form;injection e0 with e01 e02 e03;have ak:U.1.size<=w8.1.size:=aH br (iE C8.lt);have nC:q.1.size≠wy.1.size:=by omega
      have cj:=aB (And.intro e01 (And.intro e02 e03));clear e01 e02 e03;refine wp_region_noPanic ?_;refine fyA (S:=(fun w'=>C2 w' q.1.size (.int .i64 vars) (.slice L Q M)∧C4 w' wy.1.size (.bool s1) (.slice B1 k1 d1) (.bool s2) (.slice B2 k2 d2)∧w'.cell? ⟨b,ap+j*5+4,none⟩=some (.slice B3 t.2.length d3))) 12 (by kernel_rfl) (by(try dsimp only);(exact⟨O.k2,C.k4,B⟩)) (fun f=> ?_);refine lP (v:= ?_) 0 55 rfl rfl (by kernel_rfl) (fun _ _ _ h=>h) (by rfl) f ?_ ?_;rotate_left;focus (intro w d;(try dsimp only at d);go_simp;(try with_reducible rfl);done)
      (try simp only[Act.put,List.setIfInBounds_toArray,bzS,List.set_cons_succ]);refine lP (v:= ?_) 1 56 rfl rfl (by kernel_rfl) (fun _ _ _ h=>h) (by rfl) f ?_ ?_;rotate_left;focus (intro w d;(try dsimp only at d);go_simp;(try with_reducible rfl);done)
      (try simp only[Act.put,List.setIfInBounds_toArray,bzS,List.set_cons_succ]);refine lP (v:= ?_) 2 57 rfl rfl (by kernel_rfl) (fun _ _ _ h=>h) (by rfl) f ?_ ?_;rotate_left;focus (intro w d;(try dsimp only at d);go_simp;(try with_reducible rfl);done)
      (try simp only[Act.put,List.setIfInBounds_toArray,bzS,List.set_cons_succ]);refine lP (v:= ?_) 3 58 rfl rfl (by kernel_rfl) (fun _ _ _ h=>h) (by rfl) f ?_ ?_;rotate_left;focus (intro w d;(try dsimp only at d);go_simp;(try with_reducible rfl);done)
      (try simp only[Act.put,List.setIfInBounds_toArray,bzS,List.set_cons_succ]);refine lP (v:= ?_) 4 59 rfl rfl (by kernel_rfl) (fun _ _ _ h=>h) (by rfl) f ?_ ?_;rotate_left;focus (intro w d;(try dsimp only at d);go_simp;(try with_reducible rfl);done)
      (try simp only[Act.put,List.setIfInBounds_toArray,bzS,List.set_cons_succ]);refine lP (v:= ?_) 5 60 rfl rfl (by kernel_rfl) (fun _ _ _ h=>h) (by rfl) f ?_ ?_;rotate_left;focus (intro w d;(try dsimp only at d);go_simp;(try with_reducible rfl);done)
      (try simp only[Act.put,List.setIfInBounds_toArray,bzS,List.set_cons_succ]);refine lP (v:= ?_) 6 61 rfl rfl (by kernel_rfl) (fun _ _ _ h=>h) (by rfl) f ?_ ?_;rotate_left;focus (intro w d;(try dsimp only at d);go_simp;(try with_reducible rfl);done)
      (try simp only[Act.put,List.setIfInBounds_toArray,bzS,List.set_cons_succ]);refine lP (v:= ?_) 7 62 rfl rfl (by kernel_rfl) (fun _ _ _ h=>h) (by rfl) f ?_ ?_;rotate_left;focus (intro w d;(try dsimp only at d);go_simp;(try with_reducible rfl);done)
      (try simp only[Act.put,List.setIfInBounds_toArray,bzS,List.set_cons_succ]);refine lP (v:= ?_) 8 63 rfl rfl (by kernel_rfl) (fun _ _ _ h=>h) (by rfl) f ?_ ?_;rotate_left;focus (intro w d;(try dsimp only at d);go_simp;(try with_reducible rfl);done)
      (try simp only[Act.put,List.setIfInBounds_toArray,bzS,List.set_cons_succ]);refine L8 (rs:=[9]) (by kernel_rfl) (by simp) (AllU.cons (o:=_) rfl (fun K r=> ?_) AllU.nil);go_simp;(try rw[e8]);go_wp2_with fail;refine r.out _ _ (by(try dsimp only);(exact⟨O8.k2,C8.k4,au⟩)) (fun f=> ?_);clear r K;(try simp only[Act.put,List.setIfInBounds_toArray,bzS,List.set_cons_succ]);refine L8 (rs:=[10]) (by kernel_rfl) (by simp) (AllU.cons (o:=_) rfl (fun K r=> ?_) AllU.nil);refine LB (by rfl) (by rfl) 64 5 88 _ underlying51 ez9 rfl ezA (by decide) (by decide) (by rfl) hG (by rfl) Y rfl (ezB _ _ _ _ _ _ _ _ _ _ _) b0 ak ?_;intro v9 V aj _ ae _;obtain⟨F,I,G,ev⟩:∃A n c,v9= .slice A n c:=by
       obtain⟨A,c,e, -⟩:=aj.form;exact⟨A,_,c,e⟩
      subst ev;have fr:∀g,(g<U.1.size∨wy.1.size<=g)->g<w8.1.size->V.heap[g]? =w8.heap[g]? :=fun g hg hl=>ae.block g hl (fun e=>by have:=cb g e.symm;omega);have O9:Bx V q.1.size _ _:=(fr q.1.size (.inl lO) O8.lt).trans O8;have R9:Bx V w.1.size _ _:=(fr w.1.size (.inl (by omega)) R8.lt).trans R8;have C9:Bx V wy.1.size _ _:=(fr wy.1.size (.inr aE) C8.lt).trans C8;have cg:b<w8.1.size:=aZ bu N.size;have a9:=(World.cell?_of_block (a:=⟨b,ap+j*5+4,none⟩) (fr b (.inl (by omega)) cg)).trans au;refine r.out _ _ (by(try dsimp only);(exact⟨O9.k2,C9.k4,a9⟩)) (fun f=> ?_);clear r K;(try simp only[Act.put,List.setIfInBounds_toArray,bzS,List.set_cons_succ]);refine lP (v:= ?_) 11 66 rfl rfl (by kernel_rfl) (fun _ _ _ h=>h) (by rfl) f ?_ ?_;rotate_left;focus (intro w d;(try dsimp only at d);go_simp;(try with_reducible rfl);done)
      (try simp only[Act.put,List.setIfInBounds_toArray,bzS,List.set_cons_succ]);have cO:=O9.g2;refine L8 (rs:=[12]) (by kernel_rfl) (by simp) (AllU.last (o:=_) rfl (fun K r=> ?_));go_simp;refine r.out _ _ ?_;clear r K;(try simp only[Act.put,List.setIfInBounds_toArray,bzS,List.set_cons_succ]);refine fy9 (by kernel_rfl) ?_ _;refine NoPanic.normal ?_;have bx:=O9.set 1 (.slice F I G);have bz:=R9.far 1 (.slice F I G) (show q.1.size≠w.1.size by omega);have bs:=(K32.grown hG ae).trans (K32.put (O9.cell 1 rfl) (fun x e=>by cases e) (.slice F I G));have a8:=av.push bs bn bq;have a6:=aj.kept (w':=V.setCell ⟨q.1.size,1,none⟩ (.slice F I G)) (fun g e=>Below.heap_setCell V ⟨q.1.size,1,none⟩ _ g (show g≠q.1.size by have:=(aj.lt g e).1;omega));have b2:=(bh.trans ((hG.left ae ak).mono (iE lO))).setCell (p:=⟨q.1.size,1,none⟩) aE (.slice F I G);have b1:=(bi.trans ((hG.left ae ak).mono (by omega))).setCell (p:=⟨q.1.size,1,none⟩) (iE lR) (.slice F I G);have b8:RowT T (V.setCell ⟨q.1.size,1,none⟩ (.slice F I G)) U.1.size (.slice F I G) (F8 (s.take (j+1))):=⟨_,a6,by rw[fxH HT.out.1,if_neg bv.out];exact a8⟩;have ce:U.1.size<=(V.setCell ⟨q.1.size,1,none⟩ (.slice F I G)).1.size:=by simpa using aH ak ae.size
      clear a8 a6 bs cO O9 R9 C9 a9 fr aj ae hG av Y O8 R8 C8 au bn bh bi N bg e8 O R C u m ah;generalize V.setCell ⟨q.1.size,1,none⟩ (.slice F I G)=co at *;go_wp2;go_roundg k
      case rel=>exact⟨j+1,F,I,G,by have:=HJ.out;unfold Hid;omega,by have:=aq.out;go_num,b8,bz,bx,b2,b1,ce⟩
      case measure=>omega)
def fqU:(Tryz.prog.info? 40).map (fun i=>(i.zero,i.size,i.bytes))=some (some (.agg #[.string ⟨#[]⟩,.slice none 0 0]),2,40):=by kernel_rfl
def ez5(t:TQ):Te:=(cW t.1,t.2)
def fqV(vars:Int)(l:List TQ)(A:Option Addr)(n c:Nat)(w0 w:World)(hl:l.length<=1024)(d:TsR w0 w (.slice A n c) l)(a2:Below w0.1.size w0 w)(hx:∀t∈l,1<=t.2.length∧t.2.length<=1024)(f:∀t∈l,RL 1 t.1):
  Calls prog 27 #[.agg #[.int .i64 vars,.slice A n c]] w fun e w'=>∃u,e= .returned (.agg #[.int .i64 vars,u])∧TesN w.1.size w' u (l.map ez5)∧Below w.1.size w w':=by
 obtain⟨A',c',e',hc⟩:=d.form;injection e' with e1 e2 e3;subst e1 e2 e3;clear hc;have HX:=aB (And.intro hx f);clear hx f;obtain⟨W,eW,y,X,R⟩:=DA w [.int .i64 vars,.slice A l.length c] 53 [.int .i64 0,.slice none 0 0] 24;obtain⟨W2,ao,ag,O⟩:=bI W [.int .i64 vars,.slice none 0 0] 24;have bc:w.1.size+1<W.1.size:=R.lt;have cM:=aa X.g2 R.g2;replace X:=X.be ag;replace R:=R.be ag;replace y:=aC y ag;have cN:=aa X.g2 (aa R.g2 O.g2);have ay:=aB ao;clear ao;go_enter func27,ntmps27;go_upto_region 2 with fail;(try rw[eW]);rw[ay.out];clear eW;go_wp2_with fail;go_loopg [4] l.length (fun k vi wr=>∃(j:Nat) (M:Option Addr) (T P:Nat),Hid (j+k=l.length)∧vi= .int .i64 j∧RowE wr (W.1.size+1) (.slice M T P) ((l.take j).map ez5)∧Bx wr w.1.size [.int .i64 vars,.slice A l.length c] 53∧Bx wr (w.1.size+1) [.int .i64 0,.slice none 0 0] 24∧Bx wr W.1.size [.int .i64 vars,.slice M T P] 24∧Below w.1.size w wr)
 case atStart=>exact⟨0,none,0,0,by unfold Hid;omega,rfl,RowE.nil _ _,X,R,O,y⟩
 case round=>
  clear X R O y cM cN ag;obtain⟨j,M,T,P,HJ,rfl,hr,X,R,O,y⟩:=hrel;generalize wr=s at *;have cM:=aa X.g2 (aa R.g2 O.g2);have ba:(0:Int)<=(j:Int):=by omega
  cases gk with
  |zero=>
   have hj:j=l.length:=HJ.out;have a6:RowE s (W.1.size+1) (.slice M T P) (l.map ez5):=by rw[hj,aq9] at hr;exact hr
   subst hj;clear hr;have hN:=a6.tesN;go_wp2_with fail;have aq:=(hN.far (show w.1.size+1<W.1.size+1 by omega) 0 (.int .i64 vars)).far (show w.1.size+1<W.1.size+1 by omega) 1 (.slice M T P);obtain⟨W6,e6,R6,V,bb,a9⟩:=R.st2 y (Nat.le_succ _) (fun k z e=>by cases e) (.int .i64 vars) (.slice M T P);rw[e6] at aq;rw[e6];exact aM (v:= .agg #[.int .i64 vars,.slice M T P]) (by simp[results,results27,go_sem,R6.k2]) rfl ⟨_,rfl,aq.lower (by omega),V⟩
  |succ k=>
   have a5:j<l.length:=by have:=HJ.out;omega
   have q1:(j:Int)<(l.length:Int):=by omega
   obtain⟨t,ht⟩:∃t,l[j]? =some t:=⟨_,aR a5⟩;obtain⟨b,ad,rfl, -, -⟩:=d.at_ ht;obtain⟨aw,s1,B1,k1,d1,s2,B2,k2,d2,B3,d3,⟨C,E,F,G,H⟩,hq,a7⟩:=d.get ht;have B:=fun (o:Nat)=>y.cell (p:=⟨b,o,none⟩) aw;replace C:=(B _).trans C;replace E:=(B _).trans E;replace F:=(B _).trans F;replace G:=(B _).trans G;replace H:=(B _).trans H;replace hq:=hq.k32 (K32.be y);have hu:=(a7.be a2).be y;have ah:=dG ht;obtain⟨x1,x2⟩:=HX.out.1 t ah;have al:=fun W h=>CF t.1 (.agg #[.bool s1,.slice B1 k1 d1,.bool s2,.slice B2 k2 d2]) W h 1 (HX.out.2 t ah) (by decide);have HT:=aB (And.intro ht ah);have a:b<s.1.size:=aZ aw y.size;clear ht ah B;go_upto_region 5 with fail;have D:=(aG s.1.size s).drew;have a3:W.1.size<s.1.size:=O.lt;clear cM;refine wp_region_noPanic ?_;refine fyA (S:=(fun w'=>C2 w' W.1.size (.int .i64 vars) (.slice M T P)∧C2 w' w.1.size (.int .i64 vars) (.slice (some ⟨b,ad,none⟩) l.length c)∧w'.cell? ⟨b,ad+j*5,none⟩=some (.bool s1)∧w'.cell? ⟨b,ad+j*5+1,none⟩=some (.slice B1 k1 d1)∧w'.cell? ⟨b,ad+j*5+2,none⟩=some (.bool s2)∧w'.cell? ⟨b,ad+j*5+3,none⟩=some (.slice B2 k2 d2)∧w'.cell? ⟨b,ad+j*5+4,none⟩=some (.slice B3 t.2.length d3))) 21 (by kernel_rfl) (by(try dsimp only);(exact⟨(O.be D).k2,(X.be D).k2,(D.cell (p:=⟨b,_,none⟩) a).trans C,(D.cell (p:=⟨b,_,none⟩) a).trans E,(D.cell (p:=⟨b,_,none⟩) a).trans F,(D.cell (p:=⟨b,_,none⟩) a).trans G,(D.cell (p:=⟨b,_,none⟩) a).trans H⟩)) (fun m=> ?_);refine lP (v:= ?_) 0 15 rfl rfl (by kernel_rfl) (fun _ _ _ h=>h) (by rfl) m ?_ ?_;rotate_left;focus (intro w d;(try dsimp only at d);go_simp;(try with_reducible rfl);done)
   (try simp only[Act.put,List.setIfInBounds_toArray,bzS,List.set_cons_succ]);refine lP (v:= ?_) 1 16 rfl rfl (by kernel_rfl) (fun _ _ _ h=>h) (by rfl) m ?_ ?_;rotate_left;focus (intro w d;(try dsimp only at d);go_simp;(try with_reducible rfl);done)
   (try simp only[Act.put,List.setIfInBounds_toArray,bzS,List.set_cons_succ]);refine lP (v:= ?_) 2 17 rfl rfl (by kernel_rfl) (fun _ _ _ h=>h) (by rfl) m ?_ ?_;rotate_left;focus (intro w d;(try dsimp only at d);go_simp;(try with_reducible rfl);done)
   (try simp only[Act.put,List.setIfInBounds_toArray,bzS,List.set_cons_succ]);refine lP (v:= ?_) 3 18 rfl rfl (by kernel_rfl) (fun _ _ _ h=>h) (by rfl) m ?_ ?_;rotate_left;focus (intro w d;(try dsimp only at d);go_simp;(try with_reducible rfl);done)
   (try simp only[Act.put,List.setIfInBounds_toArray,bzS,List.set_cons_succ]);refine lP (v:= ?_) 4 19 rfl rfl (by kernel_rfl) (fun _ _ _ h=>h) (by rfl) m ?_ ?_;rotate_left;focus (intro w d;(try dsimp only at d);go_simp;(try with_reducible rfl);done)
   (try simp only[Act.put,List.setIfInBounds_toArray,bzS,List.set_cons_succ]);refine lP (v:= ?_) 5 20 rfl rfl (by kernel_rfl) (fun _ _ _ h=>h) (by rfl) m ?_ ?_;rotate_left;focus (intro w d;(try dsimp only at d);go_simp;(try with_reducible rfl);done)
   (try simp only[Act.put,List.setIfInBounds_toArray,bzS,List.set_cons_succ]);refine lP (v:= ?_) 6 21 rfl rfl (by kernel_rfl) (fun _ _ _ h=>h) (by rfl) m ?_ ?_;rotate_left;focus (intro w d;(try dsimp only at d);go_simp;(try with_reducible rfl);done)
   (try simp only[Act.put,List.setIfInBounds_toArray,bzS,List.set_cons_succ]);refine lP (v:= ?_) 7 22 rfl rfl (by kernel_rfl) (fun _ _ _ h=>h) (by rfl) m ?_ ?_;rotate_left;focus (intro w d;(try dsimp only at d);go_simp;(try with_reducible rfl);done)
   (try simp only[Act.put,List.setIfInBounds_toArray,bzS,List.set_cons_succ]);refine lP (v:= ?_) 10 25 rfl rfl (by kernel_rfl) (fun _ _ _ h=>h) (by rfl) m ?_ ?_;rotate_left;focus (intro w d;(try dsimp only at d);go_simp;(try with_reducible rfl);done)
   (try simp only[Act.put,List.setIfInBounds_toArray,bzS,List.set_cons_succ]);refine lP (v:= ?_) 11 26 rfl rfl (by kernel_rfl) (fun _ _ _ h=>h) (by rfl) m ?_ ?_;rotate_left;focus (intro w d;(try dsimp only at d);go_simp;(try with_reducible rfl);done)
   (try simp only[Act.put,List.setIfInBounds_toArray,bzS,List.set_cons_succ]);refine lP (v:= ?_) 12 27 rfl rfl (by kernel_rfl) (fun _ _ _ h=>h) (by rfl) m ?_ ?_;rotate_left;focus (intro w d;(try dsimp only at d);go_simp;(try with_reducible rfl);done)
   (try simp only[Act.put,List.setIfInBounds_toArray,bzS,List.set_cons_succ]);refine lP (v:= ?_) 13 28 rfl rfl (by kernel_rfl) (fun _ _ _ h=>h) (by rfl) m ?_ ?_;rotate_left;focus (intro w d;(try dsimp only at d);go_simp;(try with_reducible rfl);done)
   (try simp only[Act.put,List.setIfInBounds_toArray,bzS,List.set_cons_succ]);refine lP (v:= ?_) 14 29 rfl rfl (by kernel_rfl) (fun _ _ _ h=>h) (by rfl) m ?_ ?_;rotate_left;focus (intro w d;(try dsimp only at d);go_simp;(try with_reducible rfl);done)
   (try simp only[Act.put,List.setIfInBounds_toArray,bzS,List.set_cons_succ]);refine lP (v:= ?_) 15 30 rfl rfl (by kernel_rfl) (fun _ _ _ h=>h) (by rfl) m ?_ ?_;rotate_left;focus (intro w d;(try dsimp only at d);go_simp;(try with_reducible rfl);done)
   (try simp only[Act.put,List.setIfInBounds_toArray,bzS,List.set_cons_succ]);refine L8 (rs:=[8,9]) (by kernel_rfl) (by simp) (AllU.cons (o:=_) rfl (fun K f=> ?_) (AllU.cons (o:=_) rfl (fun K f=> ?_) AllU.nil))
   focus (
    go_simp;(go_at_call 44;refine(al _ (hq.k32 (K32.be D))).mono ?_;rintro e3 w3 ⟨rfl,ae⟩);have J:Below s.1.size s w3:=D.trans (ae.mono aE);go_wp2_with fail;refine f.out _ _ (by(try dsimp only);(exact⟨(O.be J).k2,(X.be J).k2,(J.cell (p:=⟨b,_,none⟩) a).trans C,(J.cell (p:=⟨b,_,none⟩) a).trans E,(J.cell (p:=⟨b,_,none⟩) a).trans F,(J.cell (p:=⟨b,_,none⟩) a).trans G,(J.cell (p:=⟨b,_,none⟩) a).trans H⟩)) (fun m=> ?_);clear f K;(try simp only[Act.put,List.setIfInBounds_toArray,bzS,List.set_cons_succ]);obtain⟨Z,U⟩:∃Z,w3.alloc (.cells #[] 3)=Z:=⟨_,rfl⟩;have i:Below s.1.size s Z:=by rw[<-U];exact J.alloc J.size _
    refine L8 (rs:=[9]) (by kernel_rfl) (by simp) (AllU.cons (o:=_) rfl (fun K f=> ?_) AllU.nil);go_simp;(try rw[U]);clear U;go_wp2_with fail;refine f.out _ _ (by(try dsimp only);(exact⟨(O.be i).k2,(X.be i).k2,(i.cell (p:=⟨b,_,none⟩) a).trans C,(i.cell (p:=⟨b,_,none⟩) a).trans E,(i.cell (p:=⟨b,_,none⟩) a).trans F,(i.cell (p:=⟨b,_,none⟩) a).trans G,(i.cell (p:=⟨b,_,none⟩) a).trans H⟩)) (fun m=> ?_);clear f K;(try simp only[Act.put,List.setIfInBounds_toArray,bzS,List.set_cons_succ]);refine L8 (rs:=[16]) (by kernel_rfl) (by simp) (AllU.cons (o:=_) rfl (fun K f=> ?_) AllU.nil);refine fxJ (by rfl) (by rfl) (g:=w3.1.size) (by rfl) (by rfl) (hu.be i) x1 x2 ?_;intro g6 c6 w6 ac am V;have q:=aC i V;replace ac:=aH i.size ac;refine f.out _ _ (by(try dsimp only);(exact⟨(O.be q).k2,(X.be q).k2,(q.cell (p:=⟨b,_,none⟩) a).trans C,(q.cell (p:=⟨b,_,none⟩) a).trans E,(q.cell (p:=⟨b,_,none⟩) a).trans F,(q.cell (p:=⟨b,_,none⟩) a).trans G,(q.cell (p:=⟨b,_,none⟩) a).trans H⟩)) (fun m=> ?_);clear f K;(try simp only[Act.put,List.setIfInBounds_toArray,bzS,List.set_cons_succ]);clear V i J ae;skip)
   rotate_left
   focus (
    obtain⟨Z,U⟩:∃Z,s.drew.alloc (.cells #[] 3)=Z:=⟨_,rfl⟩;have i:Below s.1.size s Z:=by rw[<-U];exact D.alloc D.size _
    go_simp;(try rw[U]);clear U;go_wp2_with fail;refine f.out _ _ (by(try dsimp only);(exact⟨(O.be i).k2,(X.be i).k2,(i.cell (p:=⟨b,_,none⟩) a).trans C,(i.cell (p:=⟨b,_,none⟩) a).trans E,(i.cell (p:=⟨b,_,none⟩) a).trans F,(i.cell (p:=⟨b,_,none⟩) a).trans G,(i.cell (p:=⟨b,_,none⟩) a).trans H⟩)) (fun m=> ?_);clear f K;(try simp only[Act.put,List.setIfInBounds_toArray,bzS,List.set_cons_succ]);refine L8 (rs:=[8]) (by kernel_rfl) (by simp) (AllU.cons (o:=_) rfl (fun K f=> ?_) AllU.nil);go_simp;(go_at_call 44;refine(al _ (hq.k32 (K32.be i))).mono ?_;rintro e3 w5 ⟨rfl,ae⟩);have I:Below s.1.size s w5:=aC i ae;go_wp2_with fail;refine f.out _ _ (by(try dsimp only);(exact⟨(O.be I).k2,(X.be I).k2,(I.cell (p:=⟨b,_,none⟩) a).trans C,(I.cell (p:=⟨b,_,none⟩) a).trans E,(I.cell (p:=⟨b,_,none⟩) a).trans F,(I.cell (p:=⟨b,_,none⟩) a).trans G,(I.cell (p:=⟨b,_,none⟩) a).trans H⟩)) (fun m=> ?_);clear f K;(try simp only[Act.put,List.setIfInBounds_toArray,bzS,List.set_cons_succ]);refine L8 (rs:=[16]) (by kernel_rfl) (by simp) (AllU.cons (o:=_) rfl (fun K f=> ?_) AllU.nil);refine fxJ (by rfl) (by rfl) (g:=s.1.size) (by rfl) (by rfl) (hu.be I) x1 x2 ?_;intro g6 c6 w6 ac am V;have q:=aC I V;replace ac:=aH I.size ac;refine f.out _ _ (by(try dsimp only);(exact⟨(O.be q).k2,(X.be q).k2,(q.cell (p:=⟨b,_,none⟩) a).trans C,(q.cell (p:=⟨b,_,none⟩) a).trans E,(q.cell (p:=⟨b,_,none⟩) a).trans F,(q.cell (p:=⟨b,_,none⟩) a).trans G,(q.cell (p:=⟨b,_,none⟩) a).trans H⟩)) (fun m=> ?_);clear f K;(try simp only[Act.put,List.setIfInBounds_toArray,bzS,List.set_cons_succ]);clear V i I ae;skip)
   all_goals (
    refine lP (v:= ?_) 17 32 rfl rfl (by kernel_rfl) (fun _ _ _ h=>h) (by rfl) m ?_ ?_;rotate_left;focus (intro w d;(try dsimp only at d);go_simp;(try with_reducible rfl);done)
    (try simp only[Act.put,List.setIfInBounds_toArray,bzS,List.set_cons_succ]);obtain⟨w7,e7,aj,Y⟩:=bI w6 [.string ⟨(cW t.1).toArray⟩,.slice (some ⟨g6,0,none⟩) t.2.length c6] 40;have r:=aC q aj;have av:=am.be aj;obtain⟨a8,hG,hT⟩:=hr.be r;have ar:a8.length<=1073741824:=by rw[hT.1,cH,bK];omega
    have ai:W.1.size+1<=w7.1.size:=aH a3 r.size;have O7:=O.be r;have X7:=X.be r;have R7:=R.be r;have au:=aC y r;refine L8 (rs:=[18]) (by kernel_rfl) (by simp) (AllU.cons (o:=_) rfl (fun K f=> ?_) AllU.nil);go_simp;(try rw[e7]);go_wp2_with fail;refine f.out _ _ (by(try dsimp only);(exact⟨(O.be r).k2,(X.be r).k2,(r.cell (p:=⟨b,_,none⟩) a).trans C,(r.cell (p:=⟨b,_,none⟩) a).trans E,(r.cell (p:=⟨b,_,none⟩) a).trans F,(r.cell (p:=⟨b,_,none⟩) a).trans G,(r.cell (p:=⟨b,_,none⟩) a).trans H⟩)) (fun m=> ?_);clear f K;(try simp only[Act.put,List.setIfInBounds_toArray,bzS,List.set_cons_succ]);refine L8 (rs:=[19]) (by kernel_rfl) (by simp) (AllU.cons (o:=_) rfl (fun K f=> ?_) AllU.nil);refine LB (by rfl) (by rfl) 40 2 40 _ underlying22 fqU rfl fxK (by decide) (by decide) (by rfl) hG (by rfl) Y rfl (fxL _ _ _ _) ar ai ?_;intro v9 w9 af _ ak _;obtain⟨L,Q,N,ev⟩:∃A n c,v9= .slice A n c:=by
     obtain⟨A,c,e, -⟩:=af.form;exact⟨A,_,c,e⟩
    subst ev;have ab:=hG.left ak ai;have O9:Bx w9 W.1.size _ _:=(ab.block W.1.size (aqC _)).trans O7;have X9:Bx w9 w.1.size _ _:=(ab.block w.1.size (by omega)).trans X7;have R9:Bx w9 (w.1.size+1) _ _:=(ab.block (w.1.size+1) (by omega)).trans R7;have B:=fun (o:Nat)=>(ab.cell (p:=⟨b,o,none⟩) (show b<W.1.size+1 by omega)).trans (r.cell (p:=⟨b,o,none⟩) a);refine f.out _ _ (by(try dsimp only);(exact⟨O9.k2,X9.k2,(B _).trans C,(B _).trans E,(B _).trans F,(B _).trans G,(B _).trans H⟩)) (fun m=> ?_);clear f K;(try simp only[Act.put,List.setIfInBounds_toArray,bzS,List.set_cons_succ]);refine lP (v:= ?_) 20 35 rfl rfl (by kernel_rfl) (fun _ _ _ h=>h) (by rfl) m ?_ ?_;rotate_left;focus (intro w d;(try dsimp only at d);go_simp;(try with_reducible rfl);done)
    (try simp only[Act.put,List.setIfInBounds_toArray,bzS,List.set_cons_succ]);have cO:=O9.g2;refine L8 (rs:=[21]) (by kernel_rfl) (by simp) (AllU.last (o:=_) rfl (fun K f=> ?_));go_simp;refine f.out _ _ ?_;clear f K;(try simp only[Act.put,List.setIfInBounds_toArray,bzS,List.set_cons_succ]);refine fy9 (by kernel_rfl) ?_ _;refine NoPanic.normal ?_;have az:=O9.set 1 (.slice L Q N);have a1:=X9.far 1 (.slice L Q N) (show W.1.size≠w.1.size by omega);have a0:=R9.far 1 (.slice L Q N) (show W.1.size≠w.1.size+1 by omega);have an:=hT.push ((KM.grown hG ak).trans (KM.put (O9.cell 1 rfl) (NoInt.slice _ _ _) (.slice L Q N))) (x:=cW t.1) (show W.1.size+1<=g6 by omega) av;have ax:=af.kept (w':=w9.setCell ⟨W.1.size,1,none⟩ (.slice L Q N)) (fun g e=>Below.heap_setCell w9 ⟨W.1.size,1,none⟩ _ g (show g≠W.1.size by have:=(af.lt g e).1;omega));have a4:=(au.trans (ab.mono (by omega))).setCell (p:=⟨W.1.size,1,none⟩) (show w.1.size<=W.1.size by omega) (.slice L Q N);have ap:(l.take (j+1)).map ez5=(l.take j).map ez5++[(cW t.1,t.2)]:=by
     rw[Q9,HT.out.1,aqO,aq7];rfl
    rw[<-ap] at an;clear ap cO O9 X9 R9 B ab af ak O7 X7 R7 au ar ai hG hT av r Y aj e7 q am O X R y hr C E F G H hu al hq D ac;generalize w9.setCell ⟨W.1.size,1,none⟩ (.slice L Q N)=bf at *;go_wp2;go_roundg k
    case rel=>exact⟨j+1,L,Q,N,by have:=HJ.out;unfold Hid;omega,by go_num,⟨_,ax,an⟩,a1,a0,az,a4⟩
    case measure=>omega)
end Go.Proofs.YtmiaanioldpfgaaGreatDoor
namespace Go.Proofs.YtmiaanioldpfgaaGreatDoor
open Tryz
def fyL{α:Type}{f:α->Nat}(k:∀x y,f x=f y->x=y):∀{l m:List α},l.Perm m->l.Pairwise (fun x y=>f y<f x)->m.Pairwise (fun x y=>f y<f x)->l=m
 |[],m,hp,_,_=>hp.nil_eq
 |x :: l,[],hp,_,_=>hp.eq_nil
 |x :: l,y :: m,hp,h1,j=>by
  obtain⟨c,d⟩:=List.pairwise_cons.1 h1;obtain⟨g,i⟩:=List.pairwise_cons.1 j;have e:x=y:=by
   rcases List.mem_cons.1 (hp.mem_iff.1 (List.mem_cons_self (a:=x) (l:=l))) with h|h
   ·exact h
   ·rcases List.mem_cons.1 (hp.mem_iff.2 (List.mem_cons_self (a:=y) (l:=m))) with b|b
    ·exact b.symm
    ·have:=g x h;have:=c y b;omega
  subst e;rw[fyL k hp.cons_inv d i]
def gxS{α:Type}[Inhabited α]{f:α->Nat}(g:∀x y,f x=f y->x=y){d a:Array α}{p:α->α->Bool}(C:Go.Sort.PermIn 0 d.size d a)(D:Go.Sort.SortedIn p 0 d.size a)(B:∀x y,p x y=decide (f y<f x)){l:List α}(w:d.toList.Perm l)(o:l.Pairwise (fun x y=>f y<f x)):a.toList=l:=by
 obtain⟨s, -,b⟩:=C;have t:a.toList.Perm d.toList:=by
  have q:a.extract 0 d.size=a:=by rw[<-s];exact Array.extract_size
  have r:d.extract 0 d.size=d:=Array.extract_size;rw[q,r] at b;exact b
 have c:=t.trans w;have hn:a.toList.Nodup:=c.nodup_iff.2 (o.imp (fun h e=>by rw[e] at h;omega));refine fyL g c ?_ o;rw[List.pairwise_iff_getElem];intro i j k n m;have z:i<a.size:=by simpa using k
 have A:j<a.size:=by simpa using n
 have u:=D i j (Nat.zero_le _) m (by omega);rw[B,getElem!_pos a j A,getElem!_pos a i z,decide_eq_false_iff_not] at u;have v:f a.toList[i]≠f a.toList[j]:=fun e=>by
  have:=(List.nodup_iff_pairwise_ne.1 hn);exact List.pairwise_iff_getElem.1 this i j k n m (g _ _ e)
 simp only[Array.getElem_toList] at v⊢;omega
end Go.Proofs.YtmiaanioldpfgaaGreatDoor
namespace Go.Proofs
open Go.Shelf
def Tryz.sortE_ren:Go.Shelf.Ren:=⟨fun|6=>98|15=>138|14=>137|28=>176|29=>177|20=>168|21=>169|22=>170|23=>171|24=>172|25=>173|26=>174|27=>175|46=>196|47=>197|48=>198|49=>199|50=>200|57=>215|n=>n,fun|22=>92|24=>109|25=>155|3=>3|39=>95|0=>0|53=>140|55=>143|4=>4|46=>216|45=>215|50=>220|5=>5|9=>9|66=>235|70=>239|76=>255|77=>256|n=>n,fun|n=>n⟩
def Tryz.sortE:Go.Proofs.SlLaysF0.n6 prog Tryz.sortE_ren:={
 mixed:=by kernel_rfl
 f6:=⟨Tryz.f98.name,by decide,Tryz.func98.trans (congrArg some (by kernel_rfl))⟩
 f14:=⟨Tryz.f137.name,by decide,Tryz.func137.trans (congrArg some (by kernel_rfl))⟩
 f15:=Tryz.func138.trans (congrArg some (by kernel_rfl))
 f20:=⟨Tryz.f168.name,by decide,Tryz.func168.trans (congrArg some (by kernel_rfl))⟩
 f21:=⟨Tryz.f169.name,by decide,Tryz.func169.trans (congrArg some (by kernel_rfl))⟩
 f22:=⟨Tryz.f170.name,by decide,Tryz.func170.trans (congrArg some (by kernel_rfl))⟩
 f23:=⟨Tryz.f171.name,by decide,Tryz.func171.trans (congrArg some (by kernel_rfl))⟩
 f24:=⟨Tryz.f172.name,by decide,Tryz.func172.trans (congrArg some (by kernel_rfl))⟩
 f25:=⟨Tryz.f173.name,by decide,Tryz.func173.trans (congrArg some (by kernel_rfl))⟩
 f26:=⟨Tryz.f174.name,by decide,Tryz.func174.trans (congrArg some (by kernel_rfl))⟩
 f27:=⟨Tryz.f175.name,by decide,Tryz.func175.trans (congrArg some (by kernel_rfl))⟩
 f28:=Tryz.func176.trans (congrArg some (by kernel_rfl))
 f29:=Tryz.func177.trans (congrArg some (by kernel_rfl))
 f46:=⟨Tryz.f196.name,by decide,Tryz.func196.trans (congrArg some (by kernel_rfl))⟩
 f47:=Tryz.func197.trans (congrArg some (by kernel_rfl))
 f48:=Tryz.func198.trans (congrArg some (by kernel_rfl))
 f49:=⟨Tryz.f199.name,by decide,Tryz.func199.trans (congrArg some (by kernel_rfl))⟩
 f50:=⟨Tryz.f200.name,by decide,Tryz.func200.trans (congrArg some (by kernel_rfl))⟩
 f57:=⟨Tryz.f215.name,by decide,Tryz.func215.trans (congrArg some (by kernel_rfl))⟩
 t0:=underlying0
 a0:=Tryz.isAgg0
 z0:=Tryz.sizeOf0
 v0:=Tryz.zeroValue0
 t3:=underlying3
 a3:=Tryz.isAgg3
 z3:=Tryz.sizeOf3
 v3:=Tryz.zeroValue3
 t4:=underlying4
 a4:=Tryz.isAgg4
 z4:=Tryz.sizeOf4
 v4:=Tryz.zeroValue4
 t5:=underlying5
 a5:=Tryz.isAgg5
 z5:=Tryz.sizeOf5
 v5:=Tryz.zeroValue5
 t9:=underlying9
 a9:=Tryz.isAgg9
 z9:=Tryz.sizeOf9
 v9:=Tryz.zeroValue9
 t22:=underlying92
 a22:=Tryz.isAgg92
 z22:=Tryz.sizeOf92
 v22:=Tryz.zeroValue92
 t25:=underlying155
 a25:=Tryz.isAgg155
 z25:=Tryz.sizeOf155
 v25:=Tryz.zeroValue155
 t39:=underlying95
 a39:=Tryz.isAgg95
 z39:=Tryz.sizeOf95
 v39:=Tryz.zeroValue95
 t45:=underlying215
 a45:=Tryz.isAgg215
 z45:=Tryz.sizeOf215
 v45:=Tryz.zeroValue215
 t46:=underlying216
 a46:=Tryz.isAgg216
 z46:=Tryz.sizeOf216
 v46:=Tryz.zeroValue216
 t50:=underlying220
 a50:=Tryz.isAgg220
 z50:=Tryz.sizeOf220
 v50:=Tryz.zeroValue220
 t53:=underlying140
 a53:=Tryz.isAgg140
 z53:=Tryz.sizeOf140
 v53:=Tryz.zeroValue140
 t55:=underlying143
 a55:=Tryz.isAgg143
 z55:=Tryz.sizeOf143
 v55:=Tryz.zeroValue143
 t66:=underlying235
 a66:=Tryz.isAgg235
 z66:=Tryz.sizeOf235
 v66:=Tryz.zeroValue235
 t70:=underlying239
 a70:=Tryz.isAgg239
 z70:=Tryz.sizeOf239
 v70:=Tryz.zeroValue239
 t76:=underlying255
 a76:=Tryz.isAgg255
 z76:=Tryz.sizeOf255
 v76:=Tryz.zeroValue255
 t77:=underlying256
 a77:=Tryz.isAgg256
 z77:=Tryz.sizeOf256
 v77:=Tryz.zeroValue256 }
end Go.Proofs
namespace Go.Proofs.YtmiaanioldpfgaaGreatDoor
open Go.RowKit Sos Tryz
variable{i:Nat}
def fx3(b:Nat)(w:World)(a c d e f g:Int)(r:List Value)(t:TypeId)(h:Bx w b ([.int .i64 a,.int .i64 c,.int .i64 d,.int .i64 e,.int .i64 f,.int .i64 g]++r) t):IntsAt w (.slice (some ⟨b,0,none⟩) 6 6) [a,c,d,e,f,g]:=by
 refine⟨_,_,rfl,aE,Rd.mk h.lt fun i j=> ?_⟩;rw[bA];match i,j with
 |0,_=>exact h.cell 0 rfl
 |1,_=>exact h.cell 1 rfl
 |2,_=>exact h.cell 2 rfl
 |3,_=>exact h.cell 3 rfl
 |4,_=>exact h.cell 4 rfl
 |5,_=>exact h.cell 5 rfl
def gxN(c d f g i j k l m p r s:Int)(r0 A B C D E F G:Value)(b:World)(R:Ex [c,d,f,g,i,j])(T:Ex [k,l,m,p,r,s]):
  Calls prog 99 #[.agg #[.int .i64 c,.int .i64 d,.int .i64 f,.int .i64 g,.int .i64 i,.int .i64 j,r0,A,B,C],.agg #[.int .i64 k,.int .i64 l,.int .i64 m,.int .i64 p,.int .i64 r,.int .i64 s,D,E,F,G]] b
   fun e w'=>e= .returned (.int .i64 (eZ [k,l,m,p,r,s] [c,d,f,g,i,j]))∧∃q z,w'=Go.Sort.grow (b.drewN q) z:=by
 obtain⟨u,x,V,X,Y⟩:=DA b [.int .i64 c,.int .i64 d,.int .i64 f,.int .i64 g,.int .i64 i,.int .i64 j,r0,A,B,C] 109 [.int .i64 k,.int .i64 l,.int .i64 m,.int .i64 p,.int .i64 r,.int .i64 s,D,E,F,G] 109;have L:∃y,u=Go.Sort.grow b y:=⟨_,by rw[<-x,Go.Sort.alloc_eq_grow,Go.Sort.alloc_eq_grow,Go.Sort.grow_grow]⟩;have H:=aB L;have O:=fx3 _ _ c d f g i j [r0,A,B,C] _ X;have P:=fx3 _ _ k l m p r s [D,E,F,G] _ Y;have M:=fun W h U=>fxR [k,l,m,p,r,s] [c,d,f,g,i,j] (.slice (some ⟨b.1.size+1,0,none⟩) 6 6) (.slice (some ⟨b.1.size,0,none⟩) 6 6) W h U rfl T R;clear L;generalize eZ [k,l,m,p,r,s] [c,d,f,g,i,j]=ov at *;go_enter func99,ntmps99;go_wp2_with fail;(try rw[x]);clear x;refine wp_region_noPanic ?_;refine wp_region_held_drew (S:=(fun w'=>True)) (by kernel_rfl) (by(try dsimp only);skip) (fun t=> ?_);refine b6 (v:= ?_) 0 5 rfl rfl (by kernel_rfl) (fun _ _ _ h=>h) (by rfl) t ?_ ?_;rotate_left;focus (intro w a;(try dsimp only at a);go_simp;(try with_reducible rfl);done)
 (try simp only[Act.put,List.setIfInBounds_toArray,bzS,List.set_cons_succ]);refine b6 (v:= ?_) 1 6 rfl rfl (by kernel_rfl) (fun _ _ _ h=>h) (by rfl) t ?_ ?_;rotate_left;focus (intro w a;(try dsimp only at a);go_simp;(try with_reducible rfl);done)
 (try simp only[Act.put,List.setIfInBounds_toArray,bzS,List.set_cons_succ]);refine b6 (v:= ?_) 2 7 rfl rfl (by kernel_rfl) (fun _ _ _ h=>h) (by rfl) t ?_ ?_;rotate_left;focus (intro w a;(try dsimp only at a);go_simp;(try with_reducible rfl);done)
 (try simp only[Act.put,List.setIfInBounds_toArray,bzS,List.set_cons_succ]);refine b6 (v:= ?_) 3 8 rfl rfl (by kernel_rfl) (fun _ _ _ h=>h) (by rfl) t ?_ ?_;rotate_left;focus (intro w a;(try dsimp only at a);go_simp;(try with_reducible rfl);done)
 (try simp only[Act.put,List.setIfInBounds_toArray,bzS,List.set_cons_succ]);refine wpAnyH_ready (rs:=[4]) (by kernel_rfl) (by simp) (AllReadyH.cons (o:=_) rfl (fun K I=> ?_) AllReadyH.nil);go_simp;(go_at_call 100;refine(M _ (P.be (aG u.1.size u).drew) (O.be (aG u.1.size u).drew)).mono ?_;rintro e3 w3 ⟨rfl,Z⟩);go_wp2_with fail;refine I.out _ _ (by(try dsimp only);skip) (fun t=> ?_);clear I K;(try simp only[Act.put,List.setIfInBounds_toArray,bzS,List.set_cons_succ]);refine b6 (v:= ?_) 5 4 rfl rfl (by kernel_rfl) (fun _ _ _ h=>h) (by rfl) t ?_ ?_;rotate_left;focus (intro w a;(try dsimp only at a);go_simp;(try with_reducible rfl);done)
 (try simp only[Act.put,List.setIfInBounds_toArray,bzS,List.set_cons_succ]);refine wpAnyH_done (by kernel_rfl) ?_ _;refine NoPanic.normal ?_;obtain⟨y,N⟩:=H.out;obtain⟨n,hn⟩:=Z;have J:∃q z,w3=Go.Sort.grow (b.drewN q) z:=⟨n+1,y,by rw[hn,N];simp[Go.Sort.grow,World.drewN,World.drew];omega⟩;have Q:=aB J;clear hn N J H M X Y O P V;go_wp2;go_ret;exact⟨rfl,Q.out⟩
def tH(i:Nat)(a:Fin 64->List Value)(k:Fin 64):List Value:=(bG 6 i k.val).map (Value.int .i64)++a k
def fyI(i k:Nat):∃a b c d e f,bG 6 i k=[a,b,c,d,e,f]:=by
 have g:=kE 6 i k;match bG 6 i k,g with
 |[a,b,c,d,e,f],_=>exact⟨a,b,c,d,e,f,rfl⟩
def fyJ(i:Nat)(k:Fin 64):Ex (bG 6 i k.val):=⟨by rw[kE];decide,fun x a=>by
 have:=k.isLt;rcases I6 a with h|h<;>omega⟩
def fyK{l:List Value}(h:l.length=4):∃a b c d,l=[a,b,c,d]:=by
 match l,h with
 |[a,b,c,d],_=>exact⟨a,b,c,d,rfl⟩
def ezP(x y:Fin 64):Int:=nA (y.val:Int) (x.val:Int)
def eqI(x y:Fin 64):ltOf ezP x y=decide (y.val<x.val):=by
 unfold ltOf ezP nA;by_cases h:y.val<x.val
 ·rw[if_pos (by omega)];simp[h]
 ·rw[if_neg (by omega)];by_cases a:(x.val:Int)<(y.val:Int)
  ·rw[if_pos a];simp;omega
  ·rw[if_neg a];simp;omega
def gxO:Go.Sort.SWO (ltOf ezP) where
 irrefl x:=by rw[eqI];simp
 trans x y z h1 h2:=by rw[eqI] at *;simp at *;omega
 ntrans x y z h1 h2:=by rw[eqI] at *;simp at *;omega
def gxP(hi:i<6)(c:Fin 64->List Value)(e:∀k,(c k).length=4)(d off z:Nat)(w:World):CmpLays prog 99 #[] (tH i c) 10 ezP d off z w:=by
 intro m n g _ x y;generalize sortWorldK (tH i c) 10 w d off m g n=f;obtain⟨A,B,C,D,E,F,a⟩:=fyI i x.val;obtain⟨G,H,I,J,K,L,b⟩:=fyI i y.val;obtain⟨o,p,q,r,j⟩:=fyK (e x);obtain⟨s,t,u,v,l⟩:=fyK (e y);have h:=gxN A B C D E F G H I J K L o p q r s t u v f (by rw[<-a];exact fyJ i x) (by rw[<-b];exact fyJ i y);rw[<-a,<-b,eq3 y.val x.val hi] at h;unfold tH;rw[a,b,j,l];exact h
def gxQ{α:Type}[Inhabited α](enc:α->List Value)(k:Nat)(w:World)(a off n:Nat)(d:Array α)(os:Array Obj)(j:a<w.1.size):w.grownBy (sortWorldK enc k w a off n d os) (some a):=by
 refine⟨rfl,rfl,rfl,?_,fun g b c=> ?_⟩
 ·have:=Go.Sort.size_putRowK (enc:=enc) (k:=k) (Go.Sort.ahead w n) a off d;show w.1.size<=((Go.Sort.putRowK enc k (Go.Sort.ahead w n) a off d).heap++os).size
  rw[Array.size_append,this];exact byR _ _
 ·have f:g≠a:=fun e=>c (by rw[e]);have h:=Go.Sort.size_putRowK (enc:=enc) (k:=k) (Go.Sort.ahead w n) a off d;have i:(Go.Sort.putRowK enc k (Go.Sort.ahead w n) a off d).1.size=w.1.size:=h;show((Go.Sort.putRowK enc k (Go.Sort.ahead w n) a off d).heap++os)[g]? =w.heap[g]?
  rw[Array.getElem?_append_left (by rw[i];exact b)];unfold Go.Sort.putRowK Go.Sort.putRow Go.Sort.mapBlock;simp[byY,Ne.symm f]
def gxR(hi:i<6)(a:Fin 64->List Value)(o:∀k,(a k).length=4)(r:∀k,∀v∈a k,v.oneCell'=true)(d:Array (Fin 64))(b cap:Nat)(w:World)(j:Go.Sort.HoldsK (tH i a) 10 w b 0 d)(c:b<w.1.size)(J:d.size<=64)(l:List (Fin 64))(t:d.toList.Perm l)(E:l.Pairwise (fun x y=>y.val<x.val)):
  Calls prog 98 #[.slice (some ⟨b,0,none⟩) d.size cap,.func (.func 99) #[] #[]] w fun e w'=>e= .returned (.tuple #[])∧Go.Sort.HoldsK (tH i a) 10 w' b 0 l.toArray∧w.grownBy w' (some b):=by
 have q:∀g w,(callFunc 99 g).run prog w= .ok (.enter 99 g) w:=enters_of func99 (by kernel_rfl) rfl;have D:∀x,(tH i a x).length=10:=fun x=>by unfold tH;rw[bN,cH,kE,o]
 have F:∀x,∀v∈tH i a x,v.oneCell'=true:=fun x v hv=>by
  unfold tH at hv;rcases List.mem_append.1 hv with h|h
  ·obtain⟨z, -,rfl⟩:=List.mem_map.1 h;rfl
  ·exact r x v h
 have s:=AnyQ.slices_SortFunc Tryz.sortE 10 Tryz.isAgg109 Tryz.sizeOf109 (tH i a) D F ezP gxO 99 #[] b 0 cap d w q (gxP hi a o b 0 d.size w) j c (by omega);refine s.mono fun e w' C=> ?_;obtain⟨B,p,n,I,m,G,rfl⟩:=C;have u:=gxS (f:=fun x:Fin 64=>x.val) (fun x y e=>Fin.ext e) m G eqI t E;have A:p=l.toArray:=by rw[<-u]
 subst A;have H:l.toArray.size=d.size:=m.1;refine⟨B,?_,gxQ _ _ _ _ _ _ _ _ c⟩;exact SWK.holds ⟨n,I,rfl⟩ c j H
end Go.Proofs.YtmiaanioldpfgaaGreatDoor
namespace Go.Proofs.YtmiaanioldpfgaaGreatDoor
open Go.RowKit Sos Go.MapKept Tryz
variable{w:World}{a b c d i r:Nat}{vs:List Value}{P:Program}
abbrev ez7(a b c d e f:Int):Value:= .agg #[.int .i64 a,.int .i64 b,.int .i64 c,.int .i64 d,.int .i64 e,.int .i64 f]
def gxT(a:Bool)(b c d e f g:Int)(w:World):(Instr.checkKey a 10000 107 (ez7 b c d e f g)).run prog w= .ok () w:=by
 show(Instr.checkKey a (9999+1) 107 (ez7 b c d e f g)).run prog w= .ok () w
 have h:∀(x:Int) (w:World),(Instr.checkKey a 9999 3 (.int .i64 x)).run prog w= .ok () w:=fun x w=>by
  show(Instr.checkKey a (9998+1) 3 (.int .i64 x)).run prog w= .ok () w
  unfold Instr.checkKey;simp[run_underlying underlying3,go_sem]
 unfold Instr.checkKey;have i:∀w:World,(Go.sizeOf 3).run prog w= .ok 1 w:=fun w=>by simp[go_sem]
 simp[Sem.run_bind,run_underlying underlying107,Result.andThen_ok,Std.Legacy.Range.forIn_eq_forIn_range',Std.Legacy.Range.size,List.range',go_sem,h,i,part]
def gxU(a b c d e f g h i j k l:Int)(w:World):(Op.equal 107 (ez7 a b c d e f) (ez7 g h i j k l)).run prog w= .ok (a==g&&(b==h&&(c==i&&(d==j&&(e==k&&f==l))))) w:=by
 show(Op.equalIn (9999+1) 107 (ez7 a b c d e f) (ez7 g h i j k l)).run prog w=_
 have m:∀(x y:Int) (w:World),(Op.equalIn 9999 3 (.int .i64 x) (.int .i64 y)).run prog w= .ok (x==y) w:=fun x y w=>run_equalIn_int w 9998 3 .i64 .i64 x y underlying3;have n:∀w:World,(Go.sizeOf 3).run prog w= .ok 1 w:=fun w=>by simp[go_sem]
 unfold Op.equalIn;simp[Sem.run_bind,run_underlying underlying107,Result.andThen_ok,Std.Legacy.Range.forIn_eq_forIn_range',Std.Legacy.Range.size,List.range',go_sem,m,n,part];cases h0:(a==g)<;>cases h1:(b==h)<;>cases h2:(c==i)<;>cases h3:(d==j)<;>cases h4:(e==k)<;>cases h5:(f==l)<;>simp_all [Result.andThen_ok]
def fyM{k:Value}{w:World}:∀(es:List MapEntry) (i:Nat),(∀e∈es,(Op.equal 107 k e.key).run prog w= .ok false w)->(Instr.findAsking 107 k es i).run prog w= .ok none w
 |[],i,_=>by simp[Instr.findAsking]
 |e :: es,i,h=>by
  have a:=h e (by simp);have b:=fyM es (i+1) (fun x c=>h x (by simp[c]));simp[Instr.findAsking,a,b]
def gxV{k:Value}(es:List MapEntry)(h:∀e∈es,(Op.equal 107 k e.key).run prog w= .ok false w):(Instr.findKey 107 k es).run prog w= .ok none w:=by
 unfold Instr.findKey;simp only[Sem.run_bind,run_underlying underlying107,Result.andThen_ok];cases es with
 |nil=>simp[Instr.findNow]
 |cons e es=>
  have:Instr.findNow (.array 6 3) k (e :: es) 0=none:=by simp[Instr.findNow,Instr.sameNow]
  rw[this];exact fyM _ _ h
def B4(i k:Nat):Value:= .agg ((bG 6 i k).map (Value.int .i64)).toArray
def lA(i:Nat)(vs:List Value):Array MapEntry:=((List.range vs.length).map fun k=>MapEntry.mk (B4 i k) (vs.getD k (.bool false)) k).toArray
def X8(i k:Nat):∃a b c d e f,bG 6 i k=[a,b,c,d,e,f]:=by
 have g:=kE 6 i k;match bG 6 i k,g with
 |[a,b,c,d,e,f],_=>exact⟨a,b,c,d,e,f,rfl⟩
def fyN(a:Bool)(i k:Nat)(w:World):(Instr.checkKey a 10000 107 (B4 i k)).run prog w= .ok () w:=by
 obtain⟨c,d,e,f,g,h,b⟩:=X8 i k;unfold B4;rw[b];exact gxT a c d e f g h w
def gxW(hi:i<6)(h:a≠b)(w:World):(Op.equal 107 (B4 i a) (B4 i b)).run prog w= .ok false w:=by
 have d:bG 6 i a≠bG 6 i b:=fun e=>by
  have c:=Z8 (v:=6) a i hi;have x:=Z8 (v:=6) b i hi;rw[e,x] at c;simp at c;omega
 obtain⟨f,g,j,k,l,m,t⟩:=X8 i a;obtain⟨n,o,p,q,r,s,u⟩:=X8 i b;unfold B4;rw[t,u] at d⊢;refine(gxU f g j k l m n o p q r s w).trans ?_;congr 1;cases hb:(f==n&&(g==o&&(j==p&&(k==q&&(l==r&&m==s))))) with
 |false=>rfl
 |true=>
  simp only[az7,beq_iff_eq] at hb;obtain⟨rfl,rfl,rfl,rfl,rfl,rfl⟩:=hb;exact absurd rfl d
def fyO{m:Nat}(hi:i<6)(c:vs.length<=m)(w:World):(Instr.findKey 107 (B4 i m) (lA i vs).toList).run prog w= .ok none w:=gxV _ fun e a=>by
 unfold lA at a;rw[List.toList_toArray] at a;obtain⟨k,b,rfl⟩:=List.mem_map.1 a;exact gxW hi (by have:=List.mem_range.1 b;omega) w
def gxX(i:Nat)(vs:List Value)(v:Value):(lA i vs).push (MapEntry.mk (B4 i vs.length) v vs.length)=lA i (vs++[v]):=by
 apply Array.toList_inj.1;unfold lA;rw[Array.toList_push,List.toList_toArray,List.toList_toArray,bN,iJ,List.range_succ,aq7];congr 1
 ·refine by3 fun k a=> ?_;rw[eF,eF,gA (List.mem_range.1 a)]
 ·simp
def gxY(hi:i<6)(a:w.heap[b]? =some (.map (lA i vs) vs.length)):
  (Instr.lookup 157 (.map (some b)) (B4 i vs.length) false).run prog w= .ok (.agg #[.bool false,.slice none 0 0,.bool false,.slice none 0 0]) w:=by
 have c:(zeroValue 86).run prog w= .ok (.agg #[.bool false,.slice none 0 0,.bool false,.slice none 0 0]) w:=by simp[go_sem]
 simp[Instr.lookup,run_underlying underlying157,MapKept.run_getObj_map a,fyN _ i vs.length w,fyO hi aE w,c,Result.andThen]
def gxZ(hi:i<6)(a:w.heap[b]? =some (.map (lA i vs) vs.length))(v:Value):
  (Instr.mapUpdate 157 (.map (some b)) (B4 i vs.length) v).run prog w= .ok () { w with heap:=w.heap.setIfInBounds b (.map (lA i (vs++[v])) (vs++[v]).length) }:=by
 rw[<-gxX,bN,iJ];simp[Instr.mapUpdate,run_underlying underlying157,MapKept.run_getObj_map a,fyN _ i vs.length w,fyO hi aE w,MapKept.run_setObj_map _ a,Result.andThen]
def gy2{es:Array MapEntry}{seen:Array Nat}(d:∀x∈es.toList,x.born<b):
  (es.filter fun e=> !seen.contains e.born).filter (fun x=>decide (x.born<b))=leftOf es seen∧(es.filter fun e=> !seen.contains e.born).filter (fun x=>decide (x.born≥b))= #[]:=by
 have c:∀x∈leftOf es seen,x.born<b:=fun x a=>d x (mem_left (Array.mem_toList_iff.2 a)).1;refine⟨Array.filter_eq_self.2 fun x a=>by simpa using c x a,Array.filter_eq_empty_iff.2 fun x a=> ?_⟩;have:=c x a;simp only[decide_eq_true_eq];omega
def gy3(k:TypeId){seen:Array Nat}{es:Array MapEntry}(i:w.heap[r]? =some (.mapIter (some b) a seen c))(p:w.heap[b]? =some (.map es d))
  (h:∀x∈es.toList,x.born<a)(y:a<=c):
  ((leftOf es seen).size=0∧(Instr.next (.pointer (some ⟨r,0,none⟩)) false k).run P w= .ok (.tuple #[.bool false]) w)∨
  ∃e∈(leftOf es seen).toList,∃n,(Instr.next (.pointer (some ⟨r,0,none⟩)) false k).run P w= .ok (.tuple #[.bool true,e.key,e.val]) { w.drewN n with heap:=w.heap.setIfInBounds r (.mapIter (some b) a (seen.push e.born) d) }:=by
 obtain⟨l,m⟩:=gy2 (seen:=seen) h;have s:(getObj r).run P w= .ok (.mapIter (some b) a seen c) w:=by simp[getObj,Sem.run,i]
 have v:∀(n:Nat) (o:Obj),(setObj r o).run P (w.drewN n)= .ok () { w.drewN n with heap:=w.heap.setIfInBounds r o }:=fun n o=>by
  have:(w.drewN n).heap[r]? =some (.mapIter (some b) a seen c):=i;simp only[setObj,Sem.run,this];rfl
 simp only[Instr.next,Sem.run_bind,s,MapKept.run_getObj_map p,Result.andThen_ok,next_test_false seen es a c h y,Bool.false_eq_true,if_false,l,m,Array.append_empty];generalize leftOf es seen=L;by_cases f:L.size=0
 ·left;obtain rfl:L= #[]:=Array.eq_empty_of_size_eq_zero f;refine⟨rfl,?_⟩;simp[Question.forced]
 ·right;have u:L.isEmpty=false:=by simp[Array.isEmpty,f]
  obtain⟨j,n,t,q⟩:∃j n,j<L.size∧(choose (.mapNext L.size)).run P w= .ok j (w.drewN n):=by
   by_cases g:L.size<=1
   ·exact⟨0,0,by omega,by simp[choose,Sem.run,Question.forced,g];rfl⟩
   ·exact⟨w.tape w.drawn (.mapNext L.size)%L.size,1,dI _ (by omega),by simp[choose,Sem.run,Question.forced,g,Question.cut];rfl⟩
  refine⟨L[j],by simp,n,?_⟩;simp only[u,Bool.false_eq_true,if_false,Array.empty_append,Array.size_map,q,Result.andThen_ok,Array.getElem?_map,Array.getElem?_eq_getElem t,bzX,Sem.run_bind,v];rfl
def gy4{seen:Array Nat}{es:Array MapEntry}{e:MapEntry}(k:w.heap[r]? =some (.mapIter (some a) d (seen.push e.born) b))(f:w.heap[a]? =some (.map es c))(h:e∈es.toList)(hn:(es.toList.map (·.born)).Nodup)(g:b=c):
  (Instr.entry (.pointer (some ⟨r,0,none⟩))).run P w= .ok (.tuple #[e.key,e.val]) w:=by
 have j:(getObj r).run P w= .ok (.mapIter (some a) d (seen.push e.born) b) w:=by simp[getObj,Sem.run,k]
 have i:es.find? (·.born==e.born)=some e:=by rw[<-Array.find?_toList];exact find_born e es.toList hn h
 simp[Instr.entry,j,MapKept.run_getObj_map f,g,i,Result.andThen]
def gy5(i:Nat)(vs:List Value):∀x∈(lA i vs).toList,x.born<vs.length:=fun x a=>by
 unfold lA at a;obtain⟨k,b,rfl⟩:=List.mem_map.1 a;exact List.mem_range.1 b
def gy6(i:Nat)(vs:List Value):((lA i vs).toList.map (·.born)).Nodup:=by
 unfold lA;rw[List.toList_toArray,List.map_map];have h:List.map ((fun x:MapEntry=>x.born) ∘ fun k=>MapEntry.mk (B4 i k) (vs.getD k (.bool false)) k) (List.range vs.length)=List.range vs.length:=by simp[Function.comp_def]
 rw[h];exact List.nodup_range
def gy7{e:MapEntry}(h:e∈(lA i vs).toList):∃k,k<vs.length∧e=MapEntry.mk (B4 i k) (vs.getD k (.bool false)) k:=by
 unfold lA at h;obtain⟨k,a,rfl⟩:=List.mem_map.1 h;exact⟨k,List.mem_range.1 a,rfl⟩
def gy8(i:Nat)(vs:List Value):∀k<vs.length,∃e∈(lA i vs).toList,e.born=k:=fun k a=>by
 unfold lA;exact⟨_,List.mem_map.2 ⟨k,List.mem_range.2 a,rfl⟩,rfl⟩
def gy9(i:Nat)(vs:List Value):(lA i vs).size=vs.length:=by simp[lA]
end Go.Proofs.YtmiaanioldpfgaaGreatDoor
namespace Go.Proofs.YtmiaanioldpfgaaGreatDoor
open Go.RowKit Sos Tryz
def RatAt.denN{w:World}{s a:Bool}{u b:Value}{q:Rat}(h:RatAt w (.agg #[.bool s,u,.bool a,b]) q)(c:q.den≠1):IntAt w (.agg #[.bool a,b]) (q.den:Int):=by
 have:=h.den;rwa [mI c] at this
def J7(x y:Rat)(vx vy:Value)(w:World)(u:RatAt w vx x)(B:RatAt w vy y)(z:x.den=1)(D:y.den=1)(K:Nat)(bx:RL K x)(bY:RL K y)(hK:10*K+40<=aJ):
  Calls prog 101 #[vx,vy] w (iF w (x+y)):=by
 obtain⟨s,A,k,c,V,E,S,I,rfl⟩:=u.form;obtain⟨t,C,l,e,t',G,U,N,rfl⟩:=B.form;unfold aJ at hK;have⟨ab,ac⟩:=bx;have⟨ad,ae⟩:=bY;obtain⟨o,p⟩:=BT (y:=y) z;rw[D] at o p;have H:Hid ((x+y).num=x.num+y.num∧bS (x+y)=0):=⟨by rw[o];simp,fV.2 p⟩;have L:bS x=0:=fV.2 z;have M:bS y=0:=fV.2 D;clear o p;obtain⟨W,O,a,X,Y,R⟩:=gE w [.bool s,.slice A k c,.bool V,.slice E S I] 86 [.bool t,.slice C l e,.bool t',.slice G U N] 86 [.bool false,.slice none 0 0,.bool false,.slice none 0 0] 86;have n:=aa X.g4 (aa Y.g4 R.g4);go_enter func101,ntmps101;go_wp2_with fail;(try rw[O]);clear O;have i:IntAt W (.agg #[.bool s,.slice A k c]) x.num:=(u.be a).num;have h:IntAt W (.agg #[.bool V,.slice E S I]) 0:=by have:=(u.be a).den;rwa [L] at this
 have m:IntAt W (.agg #[.bool t,.slice C l e]) y.num:=(B.be a).num;have j:IntAt W (.agg #[.bool t',.slice G U N]) 0:=by have:=(B.be a).den;rwa [M] at this
 clear L M z D;generalize x.num=xn at *;generalize y.num=yn at *;refine(g9 0 _ _ h tO).mono ?_;rintro o w1 ⟨rfl,d⟩;replace X:=X.be d;replace Y:=Y.be d;replace R:=R.be d;replace n:=aa X.k4 (aa Y.k4 R.g4);replace b:=Keep.be d;replace i:=i.ke b;replace h:=h.ke b;replace m:=m.ke b;replace j:=j.ke b;replace a:=aC a d;have g:decide ((0:Int)=0)=true:=rfl;rw[g];clear g;go_wp2_with fail;refine(g9 0 _ _ j tO).mono ?_;rintro p w2 ⟨rfl,f⟩;replace X:=X.be f;replace Y:=Y.be f;replace R:=R.be f;replace n:=aa X.k4 (aa Y.k4 R.g4);replace b:=Keep.be f;replace i:=i.ke b;replace h:=h.ke b;replace m:=m.ke b;replace j:=j.ke b;replace a:=aC a f;have g:decide ((0:Int)=0)=true:=rfl;rw[g];clear g;go_wp2_with fail;refine(rJ xn yn _ _ _ i m (by omega) (by omega)).mono ?_;rintro e5 w5 ⟨v5,rfl,q,r⟩;obtain⟨Z,F,T,J,rfl⟩:=q.form;replace X:=X.be r;replace Y:=Y.be r;replace R:=R.be r;replace n:=aa X.k4 (aa Y.k4 R.g4);replace a:=aC a r;go_wp2_with fail;obtain⟨W6,P,R,a,b,Q⟩:=R.put4 a (by omega) (.bool Z) (.slice F T J) (.bool false) (.slice none 0 0) rfl rfl;replace X:=Q X (by omega);replace Y:=Q Y (by omega);replace q:=q.ke b;rw[P];clear P;replace n:=aa X.k4 (aa Y.k4 R.k4);exact aM (v:= .agg #[.bool Z,.slice F T J,.bool false,.slice none 0 0]) (by simp[results,results101,go_sem,R.k4]) rfl ⟨_,rfl,RatAt.of q (IntAt.zero _) H.out.1 H.out.2,a⟩
def UZ(x y:Rat)(vx vy:Value)(w:World)(L:RatAt w vx x)(N:RatAt w vy y)(M:x.den=1)(O:y.den≠1)(K:Nat)(Z:RL K x)(V:RL K y)(hK:10*K+40<=aJ):
  Calls prog 101 #[vx,vy] w (iF w (x+y)):=by
 obtain⟨s,A,k,c,Q,H,P,I,rfl⟩:=L.form;obtain⟨t,C,l,e,D,m,B,n,rfl⟩:=N.form;unfold aJ at hK;have⟨ae,af⟩:=Z;have⟨aj,ab⟩:=V;obtain⟨J,E⟩:=BT (y:=y) M;have U:Hid ((x+y).num=x.num*y.den+y.num∧bS (x+y)=y.den):=⟨J,by rw[mI (by rw[E];exact O),E]⟩;have dx:bS x=0:=fV.2 M;clear J E;obtain⟨W,eW,b,X,Y,R⟩:=gE w [.bool s,.slice A k c,.bool Q,.slice H P I] 86 [.bool t,.slice C l e,.bool D,.slice m B n] 86 [.bool false,.slice none 0 0,.bool false,.slice none 0 0] 86;have i:=aa X.g4 (aa Y.g4 R.g4);go_enter func101,ntmps101;go_wp2_with fail;(try rw[eW]);clear eW;have f:IntAt W (.agg #[.bool s,.slice A k c]) x.num:=(L.be b).num;have h:IntAt W (.agg #[.bool Q,.slice H P I]) 0:=by have:=(L.be b).den;rwa [dx] at this
 have g:IntAt W (.agg #[.bool t,.slice C l e]) y.num:=(N.be b).num;have d:IntAt W (.agg #[.bool D,.slice m B n]) (y.den:Int):=(N.be b).denN O;have ad:decide ((y.den:Int)=0)=false:=by have:=y.den_nz;simpa using this
 have ag:nl (y.den:Int).natAbs<=K:=ab;clear dx M O ab V Z af;generalize x.num=S at *;generalize y.num=yn at *;generalize (y.den:Int)=G at *;have ak:=gT S G K K ae ag;refine(g9 0 _ _ h tO).mono ?_;rintro J w1 ⟨rfl,o⟩;replace X:=X.be o;replace Y:=Y.be o;replace R:=R.be o;replace i:=aa X.k4 (aa Y.k4 R.g4);replace a:=Keep.be o;replace f:=f.ke a;replace h:=h.ke a;replace g:=g.ke a;replace d:=d.ke a;replace b:=aC b o;have z:decide ((0:Int)=0)=true:=rfl;rw[z];clear z;go_wp2_with fail;refine(g9 G _ _ d (by omega)).mono ?_;rintro E w2 ⟨rfl,p⟩;replace X:=X.be p;replace Y:=Y.be p;replace R:=R.be p;replace i:=aa X.k4 (aa Y.k4 R.g4);replace a:=Keep.be p;replace f:=f.ke a;replace h:=h.ke a;replace g:=g.ke a;replace d:=d.ke a;replace b:=aC b p;rw[ad];clear ad;go_wp2_with fail;refine(g9 0 _ _ h tO).mono ?_;rintro e3 w3 ⟨rfl,q⟩;replace X:=X.be q;replace Y:=Y.be q;replace R:=R.be q;replace i:=aa X.k4 (aa Y.k4 R.g4);replace a:=Keep.be q;replace f:=f.ke a;replace h:=h.ke a;replace g:=g.ke a;replace d:=d.ke a;replace b:=aC b q;have z:decide ((0:Int)=0)=true:=rfl;rw[z];clear z;go_wp2_with fail;replace f:=f.drew;replace g:=g.drew;replace d:=d.drew;replace X:=X.drew;replace Y:=Y.drew;replace R:=R.drew;replace b:=b.drew;replace i:=aa X.k4 (aa Y.k4 R.g4);have ah:w.1.size+1+1≠w.1.size:=by omega
 have ai:w.1.size+1+1≠w.1.size+1:=by omega
 go_region_held3 (fun w'=>C4 w' w.1.size (.bool s) (.slice A k c) (.bool Q) (.slice H P I)∧C4 w' (w.1.size+1) (.bool t) (.slice C l e) (.bool D) (.slice m B n))
  (first|(with_reducible exact⟨X.k4,Y.k4⟩)|(refine⟨?_,?_⟩<;>(repeat (first|with_reducible exact X.k4|with_reducible exact Y.k4|with_reducible refine kK ah ?_|with_reducible refine kK ai ?_))))
  (first
   |(go_at_call 32;refine(jB S G _ _ _ f d (by omega)).mono ?_;rintro e4 w4 ⟨v4,rfl,F,r⟩;obtain⟨s4,A4,k4,c4,rfl⟩:=F.form;replace X:=X.be r;replace Y:=Y.be r;replace R:=R.be r;replace i:=aa X.k4 (aa Y.k4 R.g4);replace a:=Keep.be r;replace f:=f.ke a;replace g:=g.ke a;replace d:=d.ke a;(try replace j:=j.ke a);replace b:=aC b r)
   |(go_at_call 63;refine(rJ (S*G) yn _ _ _ F g (by omega) (by omega)).mono ?_;rintro e5 w5 ⟨v5,rfl,j,u⟩;obtain⟨s5,T,k5,c5,rfl⟩:=j.form;replace X:=X.be u;replace Y:=Y.be u;replace R:=R.be u;replace i:=aa X.k4 (aa Y.k4 R.g4);replace a:=Keep.be u;replace f:=f.ke a;replace g:=g.ke a;replace d:=d.ke a;(try replace F:=F.ke a);replace b:=aC b u))
 all_goals (
  go_wp2_with fail;obtain⟨W6,ac,R,b,a,ff⟩:=R.put4 b (by omega) (.bool s5) (.slice T k5 c5) (.bool D) (.slice m B n) rfl rfl;replace X:=ff X (by omega);replace Y:=ff Y (by omega);replace j:=j.ke a;replace d:=d.ke a;rw[ac];clear ac;replace i:=aa X.k4 (aa Y.k4 R.k4);exact aM (v:= .agg #[.bool s5,.slice T k5 c5,.bool D,.slice m B n]) (by simp[results,results101,go_sem,R.k4]) rfl ⟨_,rfl,RatAt.of j d U.out.1 U.out.2,b⟩;)
