/-
  sosoptlaw09.RootsKnown: a product of linear factors has exactly the rational roots that it was made from, and they are isolated (the card 'RootsKnownCardSaid'; the condition: the three listed tables of Go's library hold what the program's text lays in them).
-/
import Derived.Test.YtjgbleapffgbcaaGreatDoorCards
import Derived.Test.YtjgbleapffgbcaaGreatDoorTie
import Derived.Test.YtjgbleapffgbcaaGreatDoorW30
import Derived.SevenTiedAt
import Derived.ChangeMaps5
set_option linter.all false
set_option maxHeartbeats 8000000
set_option maxRecDepth 99999
namespace Go.Proofs.YtjgbleapffgbcaaGreatDoor
open Go.ChangeMaps Go.ChangeShapes Go.WideShapes Go.ChangeAt Go.WideMaps Go.WideElems Go.RowKit Go.Proofs.Tryz
theorem kno_lifted(os:Os)(L:os.Started)(H:Type)(enc:TypeId×Value->H):
  ReturnsInHanded {} Tryz.checked os 3 .any (fun w args=>(Rows.rootsKnownSpec.pre enc prog Tryz.f3 [] false w args∧laidMetH prog uX w)∧sizedMet enc prog Tryz.f3 (OpenSpec.ofChange Rows.rootsKnownSpec) false w args)
   (Rows.rootsKnownSpec.post enc prog Tryz.f3 false true false false):=by
 refine returnsInHanded_of_change_and (C:=Tryz.checked) (X:=fun w _=>laidMetH prog uX w) (fun _ _ _ D h=>h.of_heap D) own L (by kernel_rfl) func3
  (ChangeSpec.witness_shaped (enc:=enc) (C:=Tryz.checked) (os:=os) (X:=fun w _=>laidMetH prog uX w) false (World.doorLaid prog 400 os) #[.slice none 0 0] 8 rfl (World.shaped_of_RefB (by kernel_rfl) (by kernel_rfl)) (by kernel_rfl) (by kernel_rfl) (by kernel_rfl) (ayX os _)) ?_
 intro W n args o T P l g _ _ s _;have k:∀(j:Nat) t v,Tryz.f3.params[j]? =some t->args[j]? =some v->Value.okWide prog W .any n t v:=l;have b:=g;obtain⟨p,q,f,y,rfl,U,V⟩:=g;have d:DataW.TrodAll enc prog W 0 (fun _=>true) true Tryz.f3.params.toList args.toList o p:=f;rw[Tryz.params3] at d k;obtain⟨M,R,rfl,rfl,c⟩:=trodAll_one d;obtain⟨rfl,rfl⟩:=trodVars_none y;obtain⟨O,Y,Q,rfl⟩:=okWide_slice underlying22 (k 0 22 M rfl rfl);have r:=c;obtain⟨S,B⟩:=c;clear f l;simp only[List.append_nil] at b;obtain⟨G,K,m⟩:=az1 B;have E:∀x∈p,x.block<W.1.size:=fun x a=>by simpa using b.lt x (by simp[a])
 have z:=eyG G _ W (az0 s) K m;refine z.mono fun e N ⟨A,i⟩=> ?_;subst A;refine⟨_,rfl,az2 b rfl (by kernel_rfl) underlying4 rfl (fun Z F=> ?_) i⟩;have J:Tryz.prog.readableRec 22=true:=by kernel_rfl
 have I:22<Tryz.prog.types.size:=by decide+kernel
 have u:=trodAll_mk1 (Trod_stays LZ J I r (fun x a=>i.same (E x a)) (fun x a=>F x (by simp[a])));exact u
theorem kno_holds:Rows.RootsKnownSaid:=
 OpenClaim.holds_of_wide 3 Tryz.f3 rfl rfl rfl rfl rfl rfl rfl ⟨rfl,rfl,rfl,rfl,rfl⟩ rfl rfl rfl rfl rfl (by kernel_rfl) func3 (by kernel_rfl)
  (of_decide_eq_true (by kernel_rfl)) (by unfold Func.isWrapper;first|(rw[if_pos (by decide+kernel)];kernel_rfl)|(rw[if_neg (by decide+kernel)];exact⟨rfl,rfl⟩))
  (fun b c H a _=>kno_lifted b c H a)
theorem kno_card:Rows.RootsKnownCardSaid:=
 Claim7.holds_tied_plain_at .later [] [.data,.data,.data] true Rows.rootsKnownCard.stood.harness false
  kno_holds (fun _ h=>by cases h) (by kernel_rfl) (fun _ h=>by cases h) rootsKnown_row_tie rfl ⟨rfl,rfl⟩ (by kernel_rfl) rfl
  (fun f b d e=>by
   obtain rfl:f=3:=Option.some.inj ((show Tryz.prog.funcNamed "sosopt/sosoptlaw09.RootsKnown" =some 3 by kernel_rfl).symm.trans d) |>.symm;obtain rfl:b=Tryz.f3:=(Option.some.inj (Tryz.func3.symm.trans e)).symm
   exact⟨by kernel_rfl,fun j t a=>by
    rw[Tryz.params3] at a;have g:t∈[22]:=by simpa using Array.mem_of_getElem? a
    have c:([22].all fun u=> !Tryz.prog.wantsStandIn u)=true:=by kernel_rfl
    exact(show Tryz.prog.wantsStandIn t=false by simpa using List.all_eq_true.1 c t g)⟩)
  (by kernel_rfl)
#print axioms kno_card
end Go.Proofs.YtjgbleapffgbcaaGreatDoor
