/-
  sosoptlaw09.RootsRefine: for every list of texts, every interval of two texts, every text and every integer the call returns true and leaves its arguments as they were (the card 'RootsRefineCardSaid'; the condition: the three listed tables of Go's library hold what the program's text lays in them).
-/
import Derived.Test.YtpjpfjephpgcbaaGreatDoorCards
import Derived.Test.YtpjpfjephpgcbaaGreatDoorTie
import Derived.Test.YtpjpfjephpgcbaaGreatDoorQ31
import Derived.SevenTiedAt
import Derived.ChangeMaps5
import Derived.Lib.SmallJoins
set_option linter.all false
set_option maxHeartbeats 8000000
set_option maxRecDepth 99999
namespace Go.Proofs.YtpjpfjephpgcbaaGreatDoor
open Go.ChangeMaps Go.ChangeShapes Go.WideShapes Go.ChangeAt Go.WideMaps Go.WideElems Go.RowKit Go.Proofs.Tryz
theorem refi_lifted(os:Os)(aj:os.Started)(H:Type)(enc:TypeId×Value->H):
  ReturnsInHanded {} Tryz.checked os 3 .any (fun w args=>(Rows.rootsRefineSpec.pre enc prog Tryz.f3 [] false w args∧laidMetH prog uX w)∧sizedMet enc prog Tryz.f3 (OpenSpec.ofChange Rows.rootsRefineSpec) false w args)
   (Rows.rootsRefineSpec.post enc prog Tryz.f3 false true false false):=by
 refine returnsInHanded_of_change_and (C:=Tryz.checked) (X:=fun w _=>laidMetH prog uX w) (fun _ _ _ S h=>h.of_heap S) own aj (by kernel_rfl) func3
  (ChangeSpec.witness_shaped (enc:=enc) (C:=Tryz.checked) (os:=os) (X:=fun w _=>laidMetH prog uX w) false (World.doorLaid prog 400 os) #[.slice none 0 0,.agg #[.string ⟨#[]⟩,.string ⟨#[]⟩],.string ⟨#[]⟩,.int .i64 0] 8 rfl (World.shaped_of_RefB (by kernel_rfl) (by kernel_rfl)) (by kernel_rfl) (by kernel_rfl) (by kernel_rfl) (ayX os _)) ?_
 intro W I args J gs ak E A _ _ O _;have b:∀(j:Nat) t v,Tryz.f3.params[j]? =some t->args[j]? =some v->Value.okWide prog W .any I t v:=E;have c:=A;obtain⟨p,q,y,P,rfl,am,an⟩:=A;have u:DataW.TrodAll enc prog W 0 (fun _=>true) true Tryz.f3.params.toList args.toList J p:=y;rw[Tryz.params3] at u b;obtain⟨v0,v1,v2,v3,d0,d1,d2,d3,p0,p1,p2,p3,rfl,rfl,rfl,l,n,o,r⟩:=trodAll_four u;obtain⟨rfl,rfl⟩:=trodVars_none P;obtain⟨a0,l0,c0,rfl⟩:=okWide_slice underlying22 (b 0 22 v0 rfl rfl);have K:=l;have L:=n;have M:=o;have N:=r;obtain⟨al,R⟩:=l;obtain⟨u0,u1,y0,y1,m,rfl,rfl,rfl,t0,t1⟩:=Joins.open_agg2 underlying24 (by kernel_rfl) (by kernel_rfl) (b 1 24 v1 rfl rfl) n;obtain⟨s,i,rfl,ws⟩:=DataW.trod_string underlying9 t0;obtain⟨t,k,rfl,wt⟩:=DataW.trod_string underlying9 t1;simp at i k;subst i k;obtain⟨F,rfl,rfl,rfl,w2⟩:=open_string underlying9 (b 2 9 v2 rfl rfl) o;obtain⟨Y,rfl,rfl,rfl,g⟩:=open_int underlying3 (b 3 3 v3 rfl rfl) r;simp only[Lit.wf,Bool.and_eq_true,decide_eq_true_eq] at g;clear y E;simp only[List.append_nil] at c;obtain⟨V,s0,G⟩:=az1 R;have T:∀x∈p0,x.block<W.1.size:=fun x a=>by simpa using c.lt x (by simp[a])
 have f:∀s:ByteArray,s.size<=maxLen->s.data.toList.length<=9223372036854775807:=fun s h=>by unfold maxLen at h;simpa using h
 have d:∀s:ByteArray,(⟨s.data.toList.toArray⟩:ByteArray)=s:=fun s=>by cases s;simp
 have D:=bqL V s.data.toList t.data.toList F.data.toList Y _ W (az0 O) s0 G (f s ws) (f t wt) (f F w2) g.1 g.2;rw[d,d,d] at D;refine D.mono fun e W' ⟨Q,B⟩=> ?_;subst Q;refine⟨_,rfl,az2 c rfl (by kernel_rfl) underlying4 rfl (fun sp U=> ?_) B⟩;have ai:Tryz.prog.readableRec 22=true:=by kernel_rfl
 have ae:22<Tryz.prog.types.size:=by decide+kernel
 have ag:Tryz.prog.readableRec 24=true:=by kernel_rfl
 have ac:24<Tryz.prog.types.size:=by decide+kernel
 have ah:Tryz.prog.readableRec 9=true:=by kernel_rfl
 have ad:9<Tryz.prog.types.size:=by decide+kernel
 have af:Tryz.prog.readableRec 3=true:=by kernel_rfl
 have Z:3<Tryz.prog.types.size:=by decide+kernel
 have z:=trodAll_mk4 (Trod_stays LZ ai ae K (fun x a=>B.same (T x a)) (fun x a=>U x (by simp[a])))
  (Trod_stays LZ ag ac L (fun x a=>by cases a) (fun x a=>by cases a))
  (Trod_stays LZ ah ad M (fun x a=>by cases a) (fun x a=>by cases a))
  (Trod_stays LZ af Z N (fun x a=>by cases a) (fun x a=>by cases a))
 simp only[List.append_nil] at z;exact z
theorem refi_holds:Rows.RootsRefineSaid:=
 OpenClaim.holds_of_wide 3 Tryz.f3 rfl rfl rfl rfl rfl rfl rfl ⟨rfl,rfl,rfl,rfl,rfl⟩ rfl rfl rfl rfl rfl (by kernel_rfl) func3 (by kernel_rfl)
  (of_decide_eq_true (by kernel_rfl)) (by unfold Func.isWrapper;first|(rw[if_pos (by decide+kernel)];kernel_rfl)|(rw[if_neg (by decide+kernel)];exact⟨rfl,rfl⟩))
  (fun b c H a _=>refi_lifted b c H a)
theorem refi_card:Rows.RootsRefineCardSaid:=
 Claim7.holds_tied_plain_at .later [] [.data,.data,.data] true Rows.rootsRefineCard.stood.harness false
  refi_holds (fun _ h=>by cases h) (by kernel_rfl) (fun _ h=>by cases h) rootsRefine_row_tie rfl ⟨rfl,rfl⟩ (by kernel_rfl) rfl
  (fun f b d e=>by
   obtain rfl:f=3:=Option.some.inj ((show Tryz.prog.funcNamed "sosopt/sosoptlaw09.RootsRefine" =some 3 by kernel_rfl).symm.trans d) |>.symm;obtain rfl:b=Tryz.f3:=(Option.some.inj (Tryz.func3.symm.trans e)).symm
   exact⟨by kernel_rfl,fun j t a=>by
    rw[Tryz.params3] at a;have g:t∈[22,24,9,3]:=by simpa using Array.mem_of_getElem? a
    have c:([22,24,9,3].all fun u=> !Tryz.prog.wantsStandIn u)=true:=by kernel_rfl
    exact(show Tryz.prog.wantsStandIn t=false by simpa using List.all_eq_true.1 c t g)⟩)
  (by kernel_rfl)
#print axioms refi_card
end Go.Proofs.YtpjpfjephpgcbaaGreatDoor
