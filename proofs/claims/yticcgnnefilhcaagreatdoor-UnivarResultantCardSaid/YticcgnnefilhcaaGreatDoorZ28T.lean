/-
  sosoptlaw08.UnivarResultant: for every two lists of texts the call returns true and leaves its arguments as they were (the card 'UnivarResultantCardSaid'; the condition: the three listed tables of Go's library hold what the program's text lays in them).
-/
import Derived.Test.YticcgnnefilhcaaGreatDoorCards
import Derived.Test.YticcgnnefilhcaaGreatDoorTie
import Derived.Test.YticcgnnefilhcaaGreatDoorT27
import Derived.SevenTiedAt
set_option linter.all false
set_option maxHeartbeats 8000000
set_option maxRecDepth 99999
namespace Go.Proofs.YticcgnnefilhcaaGreatDoor
open Go.ChangeShapes Go.WideShapes Go.ChangeAt Go.WideMaps Go.WideElems Go.RowKit Go.Proofs.Tryz
theorem resl_lifted(os:Os)(Q:os.Started)(H:Type)(enc:TypeId×Value->H):
  ReturnsInHanded {} Tryz.checked os 3 .any (fun w args=>(Rows.univarResultantSpec.pre enc prog Tryz.f3 [] false w args∧laidMetH prog uX w)∧sizedMet enc prog Tryz.f3 (OpenSpec.ofChange Rows.univarResultantSpec) false w args)
   (Rows.univarResultantSpec.post enc prog Tryz.f3 false true false false):=by
 refine returnsInHanded_of_change_and (C:=Tryz.checked) (X:=fun w _=>laidMetH prog uX w) (fun _ _ _ J h=>h.of_heap J) own Q (by kernel_rfl) func3
  (ChangeSpec.witness_shaped (enc:=enc) (C:=Tryz.checked) (os:=os) (X:=fun w _=>laidMetH prog uX w) false (World.doorLaid prog 400 os) #[.slice none 0 0,.slice none 0 0] 8 rfl (World.shaped_of_RefB (by kernel_rfl) (by kernel_rfl)) (by kernel_rfl) (by kernel_rfl) (by kernel_rfl) (ayX os _)) ?_
 intro W y args z gs Y r l _ _ D _;have d:∀(j:Nat) t v,Tryz.f3.params[j]? =some t->args[j]? =some v->Value.okWide prog W .any y t v:=r;have b:=l;obtain⟨p,q,k,E,rfl,ad,ae⟩:=l;have i:DataW.TrodAll enc prog W 0 (fun _=>true) true Tryz.f3.params.toList args.toList z p:=k;rw[Tryz.params3] at i d;obtain⟨R,S,d0,d1,M,N,rfl,rfl,rfl,f,g⟩:=trodAll_two i;obtain⟨rfl,rfl⟩:=trodVars_none E;obtain⟨U,l0,Z,rfl⟩:=okWide_slice underlying22 (d 0 22 R rfl rfl);obtain⟨V,l1,c1,rfl⟩:=okWide_slice underlying22 (d 1 22 S rfl rfl);have A:=f;have B:=g;obtain⟨ab,G⟩:=f;obtain⟨ac,I⟩:=g;clear k r;simp only[List.append_nil] at b;obtain⟨K,O,s⟩:=az1 G;obtain⟨L,P,u⟩:=az1 I;have m:∀x∈M++N,x.block<W.1.size:=fun x a=>by simpa using b.lt x a
 refine(exI K L _ _ W (az0 D) O P s u).mono fun e T ⟨F,c⟩=> ?_;subst F;refine⟨_,rfl,az2 b rfl (by kernel_rfl) underlying4 rfl (fun sp o=> ?_) c⟩;have n:Tryz.prog.readableRec 22=true:=by kernel_rfl
 have hn:22<Tryz.prog.types.size:=by decide+kernel
 exact trodAll_mk2 (Trod_stays LZ n hn A (fun x a=>c.same (m x (List.mem_append_left _ a))) (fun x a=>o x (List.mem_append_left _ a)))
  (Trod_stays LZ n hn B (fun x a=>c.same (m x (List.mem_append_right _ a))) (fun x a=>o x (List.mem_append_right _ a)))
theorem resl_holds:Rows.UnivarResultantSaid:=
 OpenClaim.holds_of_wide 3 Tryz.f3 rfl rfl rfl rfl rfl rfl rfl ⟨rfl,rfl,rfl,rfl,rfl⟩ rfl rfl rfl rfl rfl (by kernel_rfl) func3 (by kernel_rfl)
  (of_decide_eq_true (by kernel_rfl)) (by unfold Func.isWrapper;first|(rw[if_pos (by decide+kernel)];kernel_rfl)|(rw[if_neg (by decide+kernel)];exact⟨rfl,rfl⟩))
  (fun b c H a _=>resl_lifted b c H a)
theorem resl_card:Rows.UnivarResultantCardSaid:=
 Claim7.holds_tied_plain_at .later [] [.data,.data,.data] true Rows.univarResultantCard.stood.harness false
  resl_holds (fun _ h=>by cases h) (by kernel_rfl) (fun _ h=>by cases h) univarResultant_row_tie rfl ⟨rfl,rfl⟩ (by kernel_rfl) rfl
  (fun f b d e=>by
   obtain rfl:f=3:=Option.some.inj ((show Tryz.prog.funcNamed "sosopt/sosoptlaw08.UnivarResultant" =some 3 by kernel_rfl).symm.trans d) |>.symm;obtain rfl:b=Tryz.f3:=(Option.some.inj (Tryz.func3.symm.trans e)).symm
   exact⟨by kernel_rfl,fun j t a=>by
    rw[Tryz.params3] at a;have g:t∈[22,22]:=by simpa using Array.mem_of_getElem? a
    have c:([22,22].all fun u=> !Tryz.prog.wantsStandIn u)=true:=by kernel_rfl
    exact(show Tryz.prog.wantsStandIn t=false by simpa using List.all_eq_true.1 c t g)⟩)
  (by kernel_rfl)
#print axioms resl_card
end Go.Proofs.YticcgnnefilhcaaGreatDoor
