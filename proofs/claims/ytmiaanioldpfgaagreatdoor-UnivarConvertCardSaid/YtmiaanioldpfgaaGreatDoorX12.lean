/- Laws. -/
import Derived.Test.YtmiaanioldpfgaaGreatDoorX11
import Derived.Deep.RegionHeld3
set_option linter.all false
set_option maxHeartbeats 8000000
set_option maxRecDepth 99999
namespace Go.Proofs.YtmiaanioldpfgaaGreatDoor
open Go.RowKit Sos Tryz
variable{W a w w':World}{b i:Nat}{c l:List Value}{d f g j k v:Value}{e:List Int}{t:TypeId}
abbrev eq0(w:World)(b:Nat)(a c d e f g h i j k:Value):Prop:=w.cell? ⟨b,0,none⟩=some a∧w.cell? ⟨b,1,none⟩=some c∧w.cell? ⟨b,2,none⟩=some d∧w.cell? ⟨b,3,none⟩=some e∧w.cell? ⟨b,4,none⟩=some f∧w.cell? ⟨b,5,none⟩=some g∧w.cell? ⟨b,6,none⟩=some h∧w.cell? ⟨b,7,none⟩=some i∧w.cell? ⟨b,8,none⟩=some j∧w.cell? ⟨b,9,none⟩=some k
def Bx.k10{a c e i l:Value}(h:Bx w b [a,c,d,e,f,g,i,j,k,l] t):eq0 w b a c d e f g i j k l:=
 ⟨h.cell 0 rfl,h.cell 1 rfl,h.cell 2 rfl,h.cell 3 rfl,h.cell 4 rfl,h.cell 5 rfl,h.cell 6 rfl,h.cell 7 rfl,h.cell 8 rfl,h.cell 9 rfl⟩
def Bx.g10{a c e i l:Value}(h:Bx w b [a,c,d,e,f,g,i,j,k,l] t):eq0 w b a c d e f g i j k l∧Fz w b:=⟨h.k10,h.free⟩
def Bx.sets{w:World}{b B:Nat}{t:TypeId}(o:B<=b):∀(vs a f d:List Value) (W:World),f.length=vs.length->Bx W b (a++f++d) t->(∀u∈f,∀x,u≠ .int .u64 x)->Below B w W->
  Bx (W.setCells b a.length vs) b (a++vs++d) t∧Below B w (W.setCells b a.length vs)∧Keep W (W.setCells b a.length vs)∧∀{g:Nat} {cs:List Value} {t:TypeId},Bx W g cs t->b≠g->Bx (W.setCells b a.length vs) g cs t
 |[],a,[],d,W,_,h,_,l=>⟨h,l,Keep.refl _,fun k _=>k⟩
 |v :: vs,a,u :: f,d,W,hl,h,hn,l=>by
  have H:(a++u :: f++d)[a.length]? =some u:=by rw[eK,fK aE,azV];rfl
  have m:=h.set a.length v;have F:(a++u :: f++d).set a.length v=(a++[v])++f++d:=by
   rw[eK,bzR _ _ aE,azV];simp
  rw[F] at m;have L:Keep W (W.setCell ⟨b,a.length,none⟩ v):=by
   intro x n P;obtain⟨A,c,hv,I,O,N⟩:=P;refine⟨A,c,hv,I,?_,N.mono (by simp[World.setCell])⟩;rcases O with G|⟨E,R,rfl,M,J⟩
   ·exact .inl G
   ·refine .inr ⟨E,R,rfl,by simpa [World.setCell] using M,fun j K=> ?_⟩;have r:=J j K;rw[World.cell?_setCell_other _ _ _ _ (fun e=> ?_)]
    ·exact r
    ·have i:=h.cell a.length H;rw[e,r] at i;injection i with i;exact hn u (by simp) _ i.symm
  obtain⟨s,z,C,D⟩:=Bx.sets o vs (a++[v]) f d _ (by simpa using hl) m (fun y Q=>hn y (by simp[Q])) (l.setCell (p:=⟨b,a.length,none⟩) o v);rw[bN,iJ] at s z C D
  refine⟨by have e:a++v :: vs++d=a++[v]++vs++d:=by simp
            rw[e];exact s,z,L.trans C,fun k q=>D (k.far a.length v q) q⟩
def fxN:Value->Bool
 | .int .u64 _=>false
 |_=>true
def fxO(h:l.all fxN=true):∀u∈l,∀x,u≠ .int .u64 x:=fun u a x e=>by
 have:=List.all_eq_true.1 h u a;rw[e] at this;cases this
def Bx.st10{B:Nat}(h:Bx W b c t)(q:Below B w W)(p:B<=b)(r:c.length=10)(hn:c.all fxN=true)(d e f i j k l m n o:Value):
  ∃a,(((((((((W.setCell ⟨b,0,none⟩ d).setCell ⟨b,1,none⟩ e).setCell ⟨b,2,none⟩ f).setCell ⟨b,3,none⟩ i).setCell ⟨b,4,none⟩ j).setCell ⟨b,5,none⟩ k).setCell ⟨b,6,none⟩ l).setCell ⟨b,7,none⟩ m).setCell ⟨b,8,none⟩ n).setCell ⟨b,9,none⟩ o=a∧
   Bx a b [d,e,f,i,j,k,l,m,n,o] t∧Below B w a∧Keep W a∧∀{g:Nat} {cs:List Value} {t:TypeId},Bx W g cs t->b≠g->Bx a g cs t:=by
 have:=Bx.sets p [d,e,f,i,j,k,l,m,n,o] [] c [] W r (by simpa using h) (fxO hn) q;exact⟨_,rfl,this.1,this.2.1,this.2.2.1,this.2.2.2⟩
def TesAt(w:World)(v:Value)(ts:List Te):Prop:=∃A c,v= .slice A ts.length c∧ts.length<=c∧(ts=[]∨∃b off,A=some ⟨b,off,none⟩∧b<w.1.size∧∀(i:Nat) (t:Te),ts[i]? =some t->∃u,w.cell? ⟨b,off+i*2,none⟩=some (.string ⟨t.1.toArray⟩)∧w.cell? ⟨b,off+i*2+1,none⟩=some u∧IntsAt w u t.2)
def TesAt.be{ts:List Te}(h:TesAt w v ts)(a:Below w.1.size w w'):TesAt w' v ts:=by
 obtain⟨A,c,hv,k,h⟩:=h;refine⟨A,c,hv,k,?_⟩;rcases h with h|⟨b,m,e,d,l⟩
 ·exact .inl h
 ·refine .inr ⟨b,m,e,aZ d a.size,fun i t h=> ?_⟩;obtain⟨u,f,g,j⟩:=l i t h;exact⟨u,(a.cell (p:=⟨b,_,none⟩) d).trans f,(a.cell (p:=⟨b,_,none⟩) d).trans g,j.be a⟩
def TesAt.up{b:World}[u:Up a b]{ts:List Te}(h:TesAt a v ts):TesAt b v ts:=h.be u.out
def TesAt.form{ts:List Te}(h:TesAt w v ts):∃A c,v= .slice A ts.length c∧ts.length<=c:=by
 obtain⟨A,c,hv,a,_⟩:=h;exact⟨A,c,hv,a⟩
def TesAt.at_{A:Option Addr}{l c:Nat}{ts:List Te}(h:TesAt w (.slice A l c) ts){t:Te}(hi:ts[i]? =some t):
  ∃b off u,A=some ⟨b,off,none⟩∧b<w.1.size∧w.cell? ⟨b,off+i*2,none⟩=some (.string ⟨t.1.toArray⟩)∧w.cell? ⟨b,off+i*2+1,none⟩=some u∧IntsAt w u t.2:=by
 obtain⟨k,m,hv,n,h⟩:=h;injection hv with e1 e2 e3;subst e1;rcases h with h|⟨b,off,e,g,j⟩
 ·rw[h] at hi;simp at hi
 ·obtain⟨u,a,d,f⟩:=j i t hi;exact⟨b,off,u,e,g,a,d,f⟩
def eqM:(Tryz.prog.info? 3).map (·.size)=some 1:=by kernel_rfl
def eqN(w:World)(b:Bool)(e:Ending)(w':World):Prop:=∃k l m n o p i a g d j c h f,e= .returned (.tuple #[.agg #[.int .i64 k,.int .i64 l,.int .i64 m,.int .i64 n,.int .i64 o,.int .i64 p,.bool i,.slice a g d,.bool j,.slice c h f],.bool b])∧Below w.1.size w w'
def Y7(e:List Int):List Int:=e++List.replicate (6-e.length) 0
def fzS(h:e.length<=6):∃a b c d f g,Y7 e=[a,b,c,d,f,g]:=by
 have i:(Y7 e).length=6:=by unfold Y7;simp;omega
 match Y7 e,i with
 |[a,b,c,d,f,g],_=>exact⟨a,b,c,d,f,g,rfl⟩
def fzT(h:e.length<=6)(q:List Value):splice ([.int .i64 0,.int .i64 0,.int .i64 0,.int .i64 0,.int .i64 0,.int .i64 0]++q) 0 (e.map (Value.int .i64))=(Y7 e).map (Value.int .i64)++q:=by
 unfold splice Y7;rw[byQ,iM,bA,cH,aq7,eK];congr 1;match e,h with
 |[],_=>rfl
 |[_],_=>rfl
 |[_,_],_=>rfl
 |[_,_,_],_=>rfl
 |[_,_,_,_],_=>rfl
 |[_,_,_,_,_],_=>rfl
 |[_,_,_,_,_,_],_=>rfl
def i64(x:Int):Prop:= -9223372036854775808<=x∧x<=9223372036854775807
def fzU(vars:Int)(t:Te)(u:Value)(w:World)(hG:Glob w)(L:IntsAt w u t.2)(hl:t.1.length<=1073741824)(hr:∀x∈t.2,i64 x)(hv:i64 vars)(v6:vars<=6)(kq:∀q,cG t.1=some q->RL 1 q):
  Calls prog 129 #[.int .i64 vars,.agg #[.string ⟨t.1.toArray⟩,u]] w (eqN w (p4 vars t)):=by
 obtain⟨A,c,rfl,hc⟩:=L.form;have Z:=fun W h=>wU t.1 W h hl;have ar:p4 vars t=((match cG t.1 with|none=>false|some q=>decide (q≠0))&&(decide ((t.2.length:Int)=vars)&&t.2.all (fun e=>decide (0<=e∧e<=1048576)))):=rfl;rw[ar];clear ar;obtain⟨K,a⟩:=t;replace L:IntsAt w (.slice A a.length c) a:=L;replace hc:a.length<=c:=hc;replace hr:∀x∈a,i64 x:=hr;replace Z:∀W,Glob W->Calls prog 46 #[.string ⟨K.toArray⟩] W (IP W (cG K)):=Z;replace kq:∀q,cG K=some q->RL 1 q:=kq;show Calls prog 129 #[.int .i64 vars,.agg #[.string ⟨K.toArray⟩,.slice A a.length c]] w (eqN w ((match cG K with|none=>false|some q=>decide (q≠0))&&(decide ((a.length:Int)=vars)&&a.all (fun e=>decide (0<=e∧e<=1048576)))))
 unfold IP at Z;obtain⟨M,ae⟩:∃M,(match cG K with|none=>false|some q=>decide (q≠0))=M:=⟨_,rfl⟩;rw[ae];generalize cG K=om at *;have ak:=aB ae;obtain⟨D0,af⟩:∃D0,decide ((a.length:Int)=vars)=D0:=⟨_,rfl⟩;obtain⟨V,hV⟩:∃V,a.all (fun e=>decide (0<=e∧e<=1048576))=V:=⟨_,rfl⟩;rw[af,hV];have al:=aB af;have HV:=aB hV;clear af hV;have HR:=aB hr;clear ae;clear hr hl;obtain⟨W,eW,d,X,R⟩:=DA w [.string ⟨K.toArray⟩,.slice A a.length c] 40 [.int .i64 0,.int .i64 0,.int .i64 0,.int .i64 0,.int .i64 0,.int .i64 0,.bool false,.slice none 0 0,.bool false,.slice none 0 0] 109;have B:=aa X.g2 R.g10;go_enter func129,ntmps129;go_wp2_with fail;(try rw[eW]);clear eW;refine(Z _ (hG.be d)).mono ?_;rintro e1 w1 ⟨v1,rfl,C,ag⟩;obtain⟨F,p,D,s,G,r,E,y,rfl⟩:=C.form;replace X:=X.be ag;replace R:=R.be ag;replace B:=aa X.k2 R.g10;replace d:=aC d ag;clear Z;obtain⟨w2,I,ac,P⟩:=bI w1 [.bool F,.slice p D s,.bool G,.slice r E y] 86;replace X:=X.be ac;replace R:=R.be ac;replace C:=C.be ac;have B:=aa X.k2 (aa R.g10 P.k4);replace d:=aC d ac;cases om with
 |none=>
  obtain rfl:false=M:=ak.out;(try simp only[Option.isSome_none]);clear kq;go_wp2_with fail;(try rw[I]);clear I;go_wp2_with fail;obtain⟨f,i,H,m,hk,ff⟩:=R.st10 d (by omega) rfl rfl (.int .i64 0) (.int .i64 0) (.int .i64 0) (.int .i64 0) (.int .i64 0) (.int .i64 0) (.bool false) (.slice none 0 0) (.bool false) (.slice none 0 0);rw[i];exact aM (v:= .tuple #[.agg #[.int .i64 0,.int .i64 0,.int .i64 0,.int .i64 0,.int .i64 0,.int .i64 0,.bool false,.slice none 0 0,.bool false,.slice none 0 0],.bool false]) (by simp[results,results129,go_sem,H.k10]) rfl ⟨0,0,0,0,0,0,_,_,_,_,_,_,_,_,rfl,m⟩
 |some q=>
  replace C:RatAt w2 (.agg #[.bool F,.slice p D s,.bool G,.slice r E y]) q:=C;have J:=fun W h=>SV q (.agg #[.bool F,.slice p D s,.bool G,.slice r E y]) W h (aH (kq q rfl).1 (by decide));have ab:decide (q≠0)=M:=ak.out;(try simp only[Option.isSome_some]);clear kq;by_cases N:q=0
  ·have n:decide (q=0)=true:=decide_eq_true N;have Y:decide (q≠0)=false:=decide_eq_false (fun h=>h N);obtain rfl:false=M:=Y.symm.trans ab;simp only[n] at J;clear n Y N ab;go_wp2_with fail;(try rw[I]);clear I;go_wp2_with fail;refine(J _ C).mono ?_;rintro e3 w3 ⟨rfl,l⟩;replace R:=R.be l;replace d:=aC d l;have B:=R.g10;go_wp2_with fail;obtain⟨f,i,H,m,hk,ff⟩:=R.st10 d (by omega) rfl rfl (.int .i64 0) (.int .i64 0) (.int .i64 0) (.int .i64 0) (.int .i64 0) (.int .i64 0) (.bool false) (.slice none 0 0) (.bool false) (.slice none 0 0);rw[i];exact aM (v:= .tuple #[.agg #[.int .i64 0,.int .i64 0,.int .i64 0,.int .i64 0,.int .i64 0,.int .i64 0,.bool false,.slice none 0 0,.bool false,.slice none 0 0],.bool false]) (by simp[results,results129,go_sem,H.k10]) rfl ⟨0,0,0,0,0,0,_,_,_,_,_,_,_,_,rfl,m⟩
  ·have n:decide (q=0)=false:=decide_eq_false N;have Y:decide (q≠0)=true:=decide_eq_true N;obtain rfl:true=M:=Y.symm.trans ab;simp only[n] at J;clear n Y N ab;by_cases hn:(a.length:Int)=vars
   ·have q1:((a.length:Int)==vars)=true:=by rw[hn];exact beq_self_eq_true _
    have q2:((a.length:Int) != vars)=false:=by rw[hn];exact bne_self_eq_false _
    have n:decide ((a.length:Int)=vars)=true:=decide_eq_true hn;obtain rfl:true=D0:=n.symm.trans al.out;have HN:=aB hn;have ai:a.length<=6:=by omega
    clear n hn;go_wp2_with fail;(try rw[I]);clear I;go_wp2_with fail;refine(J _ C).mono ?_;rintro e3 w3 ⟨rfl,l⟩;replace X:=X.be l;replace R:=R.be l;replace P:=P.be l;replace L:=L.be (aC d l);replace d:=aC d l;have B:=aa X.k2 (aa R.g10 P.k4);clear J;go_wp2_with fail;clear q1 q2;go_loopg [34] a.length (fun k vi wr=>∃j:Nat,Hid (j+k=a.length)∧vi= .int .i64 j∧Hid (∀x∈a.take j,0<=x∧x<=1048576)∧wr=w3)
    case atStart=>exact⟨0,by unfold Hid;omega,rfl,fun x h=>by simp at h,rfl⟩
    case round=>
     obtain⟨j,HJ,rfl,HA,rfl⟩:=hrel;have a1:(0:Int)<=(j:Int):=by omega
     cases gk with
     |zero=>
      have hj:j=a.length:=HJ.out;have az:V=true:=by
       rw[<-HV.out,List.all_eq_true];intro x O;have:=HA.out;rw[hj,aq9] at this;exact decide_eq_true (this x O)
      subst az hj;obtain⟨w4,e4,ah,T⟩:=bI wr [.int .i64 0,.int .i64 0,.int .i64 0,.int .i64 0,.int .i64 0,.int .i64 0,.bool false,.slice none 0 0,.bool false,.slice none 0 0] 109;have lR:=R.lt;have B:=aa (P.be ah).k4 T.g10;go_upto_region 12 with fail;(try rw[e4]);clear e4;obtain⟨f,i,T6,m, -, -⟩:∃f,(((w4.setCell ⟨wr.1.size,6,none⟩ (.bool F)).setCell ⟨wr.1.size,7,none⟩ (.slice p D s)).setCell ⟨wr.1.size,8,none⟩ (.bool G)).setCell ⟨wr.1.size,9,none⟩ (.slice r E y)=f∧Bx f wr.1.size [.int .i64 0,.int .i64 0,.int .i64 0,.int .i64 0,.int .i64 0,.int .i64 0,.bool F,.slice p D s,.bool G,.slice r E y] 109∧Below wr.1.size wr f∧Keep w4 f∧∀{g:Nat} {cs:List Value} {t:TypeId},Bx w4 g cs t->wr.1.size≠g->Bx f g cs t:=by
       have h:=Bx.sets (mC wr.1.size) [.bool F,.slice p D s,.bool G,.slice r E y] [.int .i64 0,.int .i64 0,.int .i64 0,.int .i64 0,.int .i64 0,.int .i64 0] [.bool false,.slice none 0 0,.bool false,.slice none 0 0] [] w4 rfl T (fxO rfl) ah;exact⟨_,rfl,h.1,h.2.1,h.2.2.1,h.2.2.2⟩
      rw[i];clear i T B ah;have B:=(X.be m).k2;have hD:=m.drew;have ap:(a.map (Value.int .i64)).length=Nat.min a.length 6:=by rw[cH];exact(y8 ai).symm
      have aq:0+(a.map (Value.int .i64)).length<=10:=by rw[cH];omega
      have au:0<(a.map (Value.int .i64)).length->(some ⟨wr.1.size,0,none⟩:Option Addr)=some ⟨wr.1.size,0,none⟩∧∃ad,A=some ad∧∀j v,(a.map (Value.int .i64))[j]? =some v->f.drew.cell? (ad.add j)=some v:=fun h0=>by
       rw[cH] at h0;obtain⟨A',c',ay, -,ax⟩:=L.be hD;injection ay with e1 I e3;subst e1;obtain⟨b,o,C,h2,h3⟩:=ax.at_ h0;refine⟨rfl,_,C,fun j v hj=> ?_⟩;have:=h3.vc j v hj;unfold Addr.add;split
       ·rename_i h0;subst h0;simpa using this
       ·exact this
      have Q:=aB (And.intro ap (And.intro aq (And.intro au (And.intro T6 (ints_oneCell .i64 a)))));clear ap aq au T6;go_region_law (refine step_copy_splice rfl (.tmp 49) (.tmp 51) 38 38 rfl 3 underlying38 eqM (some ⟨wr.1.size,0,none⟩) A 6 6 a.length c (by go_simp) (by go_simp) wr.1.size 0 _ _ Q.out.2.2.2.1 (a.map (Value.int .i64)) Q.out.1 Q.out.2.2.1 Q.out.2.1 Q.out.2.2.2.2 wr.1.size wr hD aE ?_;intro w7 an ao);have S:Bx w7 wr.1.size (splice ([.int .i64 0,.int .i64 0,.int .i64 0,.int .i64 0,.int .i64 0,.int .i64 0]++[.bool F,.slice p D s,.bool G,.slice r E y]) 0 (a.map (Value.int .i64))) 109:=an.out;clear an B;rw[fzT ai] at S;obtain⟨x0,x1,x2,x3,x4,x5,am⟩:=fzS ai;rw[am] at S;replace S:Bx w7 wr.1.size [.int .i64 x0,.int .i64 x1,.int .i64 x2,.int .i64 x3,.int .i64 x4,.int .i64 x5,.bool F,.slice p D s,.bool G,.slice r E y] 109:=S;clear am;have R7:=R.be ao;have B:=aa S.k10 R7.g10;go_wp2_with fail;obtain⟨W8,e8,R8,av, -, -⟩:=R7.st10 (aC d ao) (by omega) rfl rfl (.int .i64 x0) (.int .i64 x1) (.int .i64 x2) (.int .i64 x3) (.int .i64 x4) (.int .i64 x5) (.bool F) (.slice p D s) (.bool G) (.slice r E y);rw[e8];exact aM (v:= .tuple #[.agg #[.int .i64 x0,.int .i64 x1,.int .i64 x2,.int .i64 x3,.int .i64 x4,.int .i64 x5,.bool F,.slice p D s,.bool G,.slice r E y],.bool true]) (by simp[results,results129,go_sem,R8.k10]) rfl ⟨x0,x1,x2,x3,x4,x5,_,_,_,_,_,_,_,_,rfl,av⟩
     |succ k=>
      have aw:j<a.length:=by have:=HJ.out;omega
      have q3:(j:Int)<(a.length:Int):=by omega
      obtain⟨x,O⟩:∃x,a[j]? =some x:=⟨_,aR aw⟩;obtain⟨b,o,rfl,lb,cb⟩:=L.at_ O;have aj:=dG O;obtain⟨x1,x2⟩:=HR.out x aj;have HX:=aB (And.intro O aj);clear O aj;have U:¬(0<=x∧x<=1048576)->V=false:=fun h=>by
       rw[<-HV.out,List.all_eq_false];exact⟨x,HX.out.2,by simpa using h⟩
      by_cases y1:x<0
      ·obtain rfl:=U (by omega);clear U;go_wp2_with fail;obtain⟨f,i,H,m,hk,ff⟩:=R.st10 d (by omega) rfl rfl (.int .i64 0) (.int .i64 0) (.int .i64 0) (.int .i64 0) (.int .i64 0) (.int .i64 0) (.bool false) (.slice none 0 0) (.bool false) (.slice none 0 0);rw[i];exact aM (v:= .tuple #[.agg #[.int .i64 0,.int .i64 0,.int .i64 0,.int .i64 0,.int .i64 0,.int .i64 0,.bool false,.slice none 0 0,.bool false,.slice none 0 0],.bool false]) (by simp[results,results129,go_sem,H.k10]) rfl ⟨0,0,0,0,0,0,_,_,_,_,_,_,_,_,rfl,m⟩
      ·have a0:0<=x:=by omega
       by_cases y2:1048576<x
       ·obtain rfl:=U (by omega);clear U;go_wp2_with fail;obtain⟨f,i,H,m,hk,ff⟩:=R.st10 d (by omega) rfl rfl (.int .i64 0) (.int .i64 0) (.int .i64 0) (.int .i64 0) (.int .i64 0) (.int .i64 0) (.bool false) (.slice none 0 0) (.bool false) (.slice none 0 0);rw[i];exact aM (v:= .tuple #[.agg #[.int .i64 0,.int .i64 0,.int .i64 0,.int .i64 0,.int .i64 0,.int .i64 0,.bool false,.slice none 0 0,.bool false,.slice none 0 0],.bool false]) (by simp[results,results129,go_sem,H.k10]) rfl ⟨0,0,0,0,0,0,_,_,_,_,_,_,_,_,rfl,m⟩
       ·clear U;go_wp2;go_roundg k
        case rel=>exact⟨j+1,by have:=HJ.out;unfold Hid;omega,by go_num,fun z J=>by
         rw[Q9,HX.out.1,aqO] at J;rcases List.mem_append.1 J with h|h
         ·exact HA.out z h
         ·rw[List.mem_singleton.1 h];exact⟨a0,by omega⟩,rfl⟩
        case measure=>omega
   ·have q1:((a.length:Int)==vars)=false:=beq_eq_false_iff_ne.2 hn;have q2:((a.length:Int) != vars)=true:=by simpa using hn
    have n:decide ((a.length:Int)=vars)=false:=decide_eq_false hn;obtain rfl:false=D0:=n.symm.trans al.out;clear n hn;go_wp2_with fail;(try rw[I]);clear I;go_wp2_with fail;refine(J _ C).mono ?_;rintro e3 w3 ⟨rfl,l⟩;replace X:=X.be l;replace R:=R.be l;replace d:=aC d l;have B:=aa X.k2 R.g10;go_wp2_with fail;obtain⟨f,i,H,m,hk,ff⟩:=R.st10 d (by omega) rfl rfl (.int .i64 0) (.int .i64 0) (.int .i64 0) (.int .i64 0) (.int .i64 0) (.int .i64 0) (.bool false) (.slice none 0 0) (.bool false) (.slice none 0 0);rw[i];exact aM (v:= .tuple #[.agg #[.int .i64 0,.int .i64 0,.int .i64 0,.int .i64 0,.int .i64 0,.int .i64 0,.bool false,.slice none 0 0,.bool false,.slice none 0 0],.bool false]) (by simp[results,results129,go_sem,H.k10]) rfl ⟨0,0,0,0,0,0,_,_,_,_,_,_,_,_,rfl,m⟩
section
variable {P:Program}{md:Region.Mode}{ops:Array Oper}{Q:Exit->Act->World->Prop}{S:World->Prop}{oi:Oper}{v:Value}{fuel:Nat}{listed:Array Bool}{a:Act}{w:World}
def b6(i d:Nat)(hi:ops[i]? =some oi)(g:oi.dst=some d)(b:(Region.noSelect ops&&(Region.free md ops listed i&&(Region.ready md ops listed).contains i))=true)
  (e:∀c a w,Q (.panic c) (a.put (some d) v) w->Q (.panic c) a w)(j:Region.wanted oi (yielded ops a.tmps)=true)(f:S w)(k:∀w,S w->(execOp a.eval oi).run P w= .ok (.value v) w)
  (h:wpAnyH P md ops Q S fuel (listed.setIfInBounds i true) (a.put (some d) v) w):wpAnyH P md ops Q S (fuel+1) listed a w:=by
 simp only[az7] at b;rw[<-g] at e h;exact wpAnyH_take hi b.1 b.2.1 b.2.2 e (.inl ⟨j,k⟩) f h
def tE(i d:Nat)(f:(Region.noSelect ops&&(Region.free md ops listed i&&((Region.ready md ops listed).contains i&&(match ops[i]? with|some o=>(o.dst==some d)&& !Region.wanted o (yielded ops a.tmps)|none=>false))))=true)
  (e:∀c a w,Q (.panic c) (a.put (some d) undef) w->Q (.panic c) a w)(l:S w)
  (h:wpAnyH P md ops Q S fuel (listed.setIfInBounds i true) (a.put (some d) undef) w):wpAnyH P md ops Q S (fuel+1) listed a w:=by
 simp only[az7] at f;obtain⟨g,j,k,b⟩:=f;cases ho:ops[i]? with
 |none=>rw[ho] at b;cases b
 |some o=>
  rw[ho] at b;simp only[az7,Bool.not_eq_true',beq_iff_eq] at b;rw[<-b.1] at e h;exact wpAnyH_take ho g j k e (.inr ⟨b.2,rfl⟩) l h
end
