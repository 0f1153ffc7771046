/-
  Contracts, laws: AwkR, AwkA, RooJ, LawL.
-/
import Derived.Test.YthfnenohhindpaaGreatDoorD43
import Derived.Test.YthfnenohhindpaaGreatDoorD47
set_option linter.all false
set_option maxHeartbeats 8000000
set_option maxRecDepth 100000
namespace Go.Proofs.YthfnenohhindpaaGreatDoor
open Go.RowKit Sos
theorem StrsAt.built (w:World) (ls:List (List UInt8)) (t:TypeId):StrsAt (w.alloc (.cells (ls.map (fun l=>Value.string ⟨l.toArray⟩)).toArray t)) (.slice (some ⟨w.heap.size,0,none⟩) ls.length ls.length) ls:=by
 refine⟨_,_,rfl,aE,.inr ⟨w.heap.size,0,rfl,by simp,fun i l a=> ?_⟩⟩;have B:=Bx.new w (ls.map (fun l=>Value.string ⟨l.toArray⟩)) t;rw[aS];exact B.cell i (by rw[List.getElem?_map,a];rfl)
theorem VL (ls:List (List UInt8)) (v:Value) (w:World) (hv:StrsAt w v ls) (g:∀l∈ls,l.length<=9223372036854775807):
  Calls Tryz.prog 8 #[v] w fun e w'=>e= .returned (.bool (decide (ls.length<=7)&&gR 6 ls))∧w=w':=by
 obtain⟨A,c,rfl,j⟩:=hv.form;by_cases f:ls.length<=7
 ·have h:(ls.length:Int)<=7:=by omega
  have d:Calls Tryz.prog 9 #[.int .i64 6,.slice A ls.length c] w fun e w'=>e= .returned (.bool (gR 6 ls))∧w=w':=H2 6 ls (.slice A ls.length c) w hv (by decide) (by omega) g;obtain⟨S,b⟩:∃S,gR 6 ls=S:=⟨_,rfl⟩;have a:Hid ((decide (ls.length<=7)&&gR 6 ls)=S):=by unfold Hid;rw[b];simp[f]
  rw[b] at d;clear b;go_enter Tryz.func8,Tryz.ntmps8;go_wp2_with fail;refine d.mono ?_;rintro i k ⟨rfl,rfl⟩;go_wp2_with fail;go_ret;rw[a.out];exact⟨rfl,rfl⟩
 ·have h:¬(ls.length:Int)<=7:=by omega
  have a:Hid ((decide (ls.length<=7)&&gR 6 ls)=false):=by unfold Hid;simp[f]
  go_enter Tryz.func8,Tryz.ntmps8;go_wp2_with fail;go_ret
  first
   |exact⟨rfl,rfl⟩
   |(rw[a.out];exact⟨rfl,rfl⟩)
theorem uQ:aN [[45,50],[48],[49]]=[-2,0,1]:=by
 show[(d7 [45,50]).getD 0,(d7 [48]).getD 0,(d7 [49]).getD 0]=_
 rw[WA,H4,VZ];rfl
theorem VM:d7 [45,52]=some (-4):=by decide
theorem VN:d7 [52]=some 4:=by decide
theorem VO:([(-4,0),(0,4)]:List (Rat×Rat)).map oF=[([45,52],[48]),([48],[52])]:=by
 show[(bD (-4),bD 0),(bD 0,bD 4)]=_
 rw[qP VM,qP H4,qP VN]
theorem GZ:vl [[45,50],[48],[49]]=true:=by
 unfold vl;rw[decide_eq_true_iff,uQ];exact⟨by decide,by decide,by decide⟩
theorem VP:d8 [[45,50],[48],[49]]=0:=by unfold d8;rw[if_pos GZ,if_neg (by simp)]
theorem VQ:iC [[45,50],[48],[49]] [] []=0:=by
 have h:d8 [[45,50],[48],[49]]=0:=by unfold d8;rw[if_pos GZ,if_neg (by simp)]
 unfold iC;rw[h];rfl
theorem VR {n:Int} (h:uN (aN [[45,50],[48],[49]]) (gB [] (-1)) (fL []) (gB [] 1) (fL []) 0 n):n=2:=by
 have a:=h.2 rfl;rw[uQ] at a;rw[a.get (by decide) yY GH (by decide)];exact UJ
theorem VS:∀p∈([(-4,0),(0,4)]:List (Rat×Rat)),RL 35080695 p.1∧RL 35080695 p.2:=fun p b=>by
 have c:RL 35080695 ((4:Int):Rat):=rE (aG (bW (m:=1) (by unfold BN;decide)) (by decide)) (by decide);have d:RL 35080695 ((-4:Int):Rat):=rE (aG (bW (m:=1) (by unfold BN;decide)) (by decide)) (by decide);have a:RL 35080695 (0:Rat):=fU (by decide);simp only[List.mem_cons,List.not_mem_nil,or_false] at b;rcases b with rfl|rfl
 ·exact⟨d,a⟩
 ·exact⟨a,c⟩
theorem zH (w:World) (g:Glob w):Calls Tryz.prog 10 #[] w fun e w'=>e= .returned (.bool true)∧Below w.heap.size w w':=by
 have m:=fun W v g h=>VW [[45,50],[48],[49]] 2 35080695 (fun l=>l=[(-4,0),(0,4)]) v W g h (by decide) (by decide) (fun _ _=>by rw[uQ,UP];exact UQ) (by decide) (by decide) (by decide) uK (VD (by unfold aI;decide)) (fun l h=>by rw[h];exact⟨by decide,VS⟩) (fun w s c p z=>by rw[uQ] at p;exact⟨_,UR p z.1,rfl⟩);have i:=fun W v g h=>GK [[45,50],[48],[49]] v W g h (by decide) (by decide);unfold pL at i;rw[VQ] at i;rw[VP] at m;go_enter Tryz.func10,Tryz.ntmps10;go_wp2_with fail;have a:Below w.heap.size w (w.alloc (.cells #[.string ⟨#[45,50]⟩,.string ⟨#[48]⟩,.string ⟨#[49]⟩] 9)):=(aH _ _).alloc aE _;have q:StrsAt (w.alloc (.cells #[.string ⟨#[45,50]⟩,.string ⟨#[48]⟩,.string ⟨#[49]⟩] 9)) (.slice (some ⟨w.heap.size,0,none⟩) 3 3) [[45,50],[48],[49]]:=StrsAt.built w [[45,50],[48],[49]] 9;generalize w.alloc (.cells #[.string ⟨#[45,50]⟩,.string ⟨#[48]⟩,.string ⟨#[49]⟩] 9)=W at *;refine(m _ _ (g.below a) q).mono ?_;rintro E d ⟨I,l,rfl,A, -,b,x⟩;obtain rfl:=A trivial;rw[VO] at b;replace a:=aC a x;obtain⟨t,u,rfl,H⟩:=b.form;replace b:IvsAt d (.slice t 2 u) [([45,52],[48]),([48],[52])]:=b;clear q m;go_wp2_with fail;have j:Below d.heap.size d (d.alloc (.cells #[.string ⟨#[45,50]⟩,.string ⟨#[48]⟩,.string ⟨#[49]⟩] 9)):=(aH _ _).alloc aE _;have r:StrsAt (d.alloc (.cells #[.string ⟨#[45,50]⟩,.string ⟨#[48]⟩,.string ⟨#[49]⟩] 9)) (.slice (some ⟨d.heap.size,0,none⟩) 3 3) [[45,50],[48],[49]]:=StrsAt.built d [[45,50],[48],[49]] 9;replace b:=b.below j;replace a:=aC a j;clear j;generalize d.alloc (.cells #[.string ⟨#[45,50]⟩,.string ⟨#[48]⟩,.string ⟨#[49]⟩] 9)=C at *;refine(i _ _ (g.below a) r).mono ?_;rintro F f ⟨n,rfl, -, -,hn,o⟩;obtain rfl:=VR hn;replace b:=b.below o;replace a:=aC a o;clear r i hn;go_wp2_with fail;have k:Below f.heap.size f (f.alloc (.cells #[.string ⟨#[45,52]⟩,.string ⟨#[48]⟩,.string ⟨#[48]⟩,.string ⟨#[52]⟩] 24)):=(aH _ _).alloc aE _;have B:IvsAt (f.alloc (.cells #[.string ⟨#[45,52]⟩,.string ⟨#[48]⟩,.string ⟨#[48]⟩,.string ⟨#[52]⟩] 24)) (.slice (some ⟨f.heap.size,0,none⟩) 2 2) [([45,52],[48]),([48],[52])]:=IvsAt.built f [([45,52],[48]),([48],[52])] 24;replace b:=b.below k;replace a:=aC a k;clear k;generalize f.alloc (.cells #[.string ⟨#[45,52]⟩,.string ⟨#[48]⟩,.string ⟨#[48]⟩,.string ⟨#[52]⟩] 24)=D at *;refine(VT _ _ _ _ b B (by decide)).mono ?_;rintro G J ⟨rfl,y⟩;go_wp2_with fail;go_ret;exact⟨rfl,aC a y⟩
theorem zJ {ls:List (List UInt8)} {E:Int} {rows:List (List (List UInt8))} (h:p8 ls E rows) (e:ls.length<=7):rows.length<=1024∧∀l∈rows,l.length<=1024:=by
 by_cases d:E=0
 ·obtain⟨a,n,b,o,C,j,m,f,rfl,i⟩:=h.2 d;have q:(aN ls).length=ls.length:=bK _;have p:=j.len;have g:=congrArg List.length f;rw[eE,lK] at g;unfold gG;refine⟨by rw[bK,List.length_cons];omega,fun l k=> ?_⟩;obtain⟨X,c,rfl⟩:=List.mem_map.1 k;rw[bK];rcases List.mem_cons.1 c with rfl|c
  ·omega
  ·have:=(i X c).1;omega
 ·rw[h.1 d];exact⟨by decide,fun l e=>by cases e⟩
theorem H5 (ls:List (List UInt8)) (a b:List UInt8) (v:Value) (w:World) (d:Glob w) (hv:StrsAt w v ls) (ad:∀l∈ls,l.length<=9223372036854775807) (ae:a.length<=9223372036854775807) (af:b.length<=9223372036854775807):
  Calls Tryz.prog 5 #[v,.string ⟨a.toArray⟩,.string ⟨b.toArray⟩] w fun e w'=>e= .returned (.bool true)∧Below w.heap.size w w':=by
 obtain⟨A,g,rfl,hc⟩:=hv.form;have M:=fun W h=>VL ls (.slice A ls.length g) W h ad
 have L:∀W v,StrsAt W v [a,b]->Calls Tryz.prog 9 #[.int .i64 12,v] W fun e w'=>e= .returned (.bool (gR 12 [a,b]))∧W=w':=fun W v h=>H2 12 [a,b] v W h (by decide) (by show 2<=1073741824;decide) (fun l G=>by
  simp only[List.mem_cons,List.not_mem_nil,or_false] at G;rcases G with rfl|rfl
  ·exact ae
  ·exact af)
 clear ad ae af;go_enter Tryz.func5,Tryz.ntmps5;go_wp2_with fail;refine(M _ hv).mono ?_;rintro e1 w1 ⟨rfl,rfl⟩;cases hs:(decide (ls.length<=7)&&gR 6 ls) with
 |false=>
  have c:=aH w.heap.size w;clear hs M L;go_wp2_with fail;refine(zH _ (d.below c)).mono ?_;rintro S w9 ⟨rfl,x⟩;go_wp2_with fail;go_ret;exact⟨rfl,aC c x⟩
 |true=>
  rw[Bool.and_eq_true,decide_eq_true_iff] at hs;obtain⟨f,K⟩:=hs;have j:∀l∈ls,l.length<=6:=fun l G=>by
   unfold gR at K;exact of_decide_eq_true (List.all_eq_true.1 K l G)
  have D:=fun W d h=>PM ls (.slice A ls.length g) W d h f j;have s:=fun t k W h=>V7 ls t k (.slice A ls.length g) W h f j;have r:=fun W d h N O=>GJ ls a b (.slice A ls.length g) W d h f j N O;have p:=fun n o W h N O=>zL ls a b n o (.slice A ls.length g) W h f j N O;have H:=fun W d h=>GK ls (.slice A ls.length g) W d h f j;have u:=fun n o W h=>H8 ls n o (.slice A ls.length g) W h f j;have J:=fun W d h=>PS ls (.slice A ls.length g) W d h f j;have R:=fun W h=>V5 ls (.slice A ls.length g) W h f j;have y:=fun t k B B' va vb W h h'=>ID t B B' va vb W h h' (zJ (ls:=ls) (E:=d8 ls) k f).1 (zJ k f).2;clear M K j;go_wp2_with fail;have c:Below w.heap.size w (w.alloc (.cells #[.string ⟨a.toArray⟩,.string ⟨b.toArray⟩] 9)):=(aH _ _).alloc aE _;have x1:StrsAt (w.alloc (.cells #[.string ⟨a.toArray⟩,.string ⟨b.toArray⟩] 9)) (.slice (some ⟨w.heap.size,0,none⟩) 2 2) [a,b]:=StrsAt.built w [a,b] 9;replace hv:=hv.below c;generalize w.alloc (.cells #[.string ⟨a.toArray⟩,.string ⟨b.toArray⟩] 9)=W at *;refine(L _ _ x1).mono ?_;rintro e2 w2 ⟨rfl,rfl⟩;clear L x1;cases h8:gR 12 [a,b] with
  |false=>
   clear h8 r H D s p u J R y;go_wp2_with fail;refine(zH _ (d.below c)).mono ?_;rintro S w9 ⟨rfl,x⟩;go_wp2_with fail;go_ret;exact⟨rfl,aC c x⟩
  |true=>
   have ag:a.length<=12∧b.length<=12:=by
    unfold gR at h8;simpa using h8
   obtain⟨P,Q⟩:=ag;replace r:=fun W d h=>r W d h P Q;replace p:=fun n o W h=>p n o W h P Q;unfold xG at D;unfold zB at s;unfold pL at r H;unfold pM at p u;clear h8 P Q f;generalize nW ls=T at *;generalize d8 ls=E at *;generalize iC ls a b=F at *;generalize iC ls [] []=F' at *;go_wp2_with fail;refine(D _ (d.below c) hv).mono ?_;rintro e3 w3 ⟨v3,t,rfl,i,k,Z⟩;replace s:=s t k;replace y:=y t k;obtain⟨A3,c3,rfl, -⟩:=i.form;replace hv:=hv.below Z;replace c:=aC c Z;clear D k;go_wp2_with fail;refine(s _ hv).mono ?_;rintro e4 w4 ⟨v4,rfl,q,I⟩;obtain⟨A4,c4,rfl, -⟩:=q.form;replace hv:=hv.below I;replace i:=i.below I;replace c:=aC c I;clear s;go_wp2_with fail;refine(r _ (d.below c) hv).mono ?_;rintro e5 w5 ⟨n,rfl,n1,n2,o,z⟩;replace p:=p n o;replace hv:=hv.below z;replace i:=i.below z;replace q:=q.below z;replace c:=aC c z;clear r o;go_wp2_with fail;refine(p _ hv).mono ?_;rintro e6 w6 ⟨rfl,C⟩;replace hv:=hv.below C;replace i:=i.below C;replace q:=q.below C;replace c:=aC c C;clear p;go_wp2_with fail;refine(y _ _ _ _ _ i q).mono ?_;rintro e7 w7 ⟨rfl,ab⟩;replace hv:=hv.below ab;replace c:=aC c ab;clear y i q;go_wp2_with fail;refine(H _ (d.below c) hv).mono ?_;rintro e8 w8 ⟨m,rfl,m1,m2,U,ac⟩;replace u:=u m U;replace hv:=hv.below ac;replace c:=aC c ac;clear H U;go_wp2_with fail;refine(u _ hv).mono ?_;rintro ah ak ⟨rfl,V⟩;replace hv:=hv.below V;replace c:=aC c V;clear u;go_wp2_with fail;refine(J _ (d.below c) hv).mono ?_;rintro ai al ⟨rfl,X⟩;replace hv:=hv.below X;replace c:=aC c X;clear J;go_wp2_with fail;refine(R _ hv).mono ?_;rintro aj am ⟨rfl,Y⟩;replace hv:=hv.below Y;replace c:=aC c Y;clear R;go_wp2_with fail;refine(zH _ (d.below c)).mono ?_;rintro S w9 ⟨rfl,x⟩;go_wp2_with fail;go_ret;exact⟨rfl,aC c x⟩
