/-
  sosoptlaw08.UnivarBasics: for every list of texts and every text the call returns true and leaves its arguments as they were (the card 'UnivarBasicsCardSaid'; the condition: the three listed tables of Go's library hold what the program's text lays in them).
-/
import Derived.Test.YtlojjipfnejbnaaGreatDoorCards
import Derived.Test.YtlojjipfnejbnaaGreatDoorTie
import Derived.Test.YtlojjipfnejbnaaGreatDoorA36
import Derived.Test.YtlojjipfnejbnaaGreatDoorC37
import Derived.SevenTiedAt
import Derived.ChangeMaps5
set_option linter.unusedVariables false
set_option linter.unusedSimpArgs false
set_option maxHeartbeats 8000000
set_option maxRecDepth 100000
namespace Go.Proofs.YtlojjipfnejbnaaGreatDoor
open Go.ChangeMaps Go.ChangeShapes Go.WideShapes Go.ChangeAt Go.WideMaps Go.WideElems Go.RowKit
theorem basics_lifted (os:Os) (started:os.Started) (H:Type) (enc:TypeId×Value→H):
  ReturnsInHanded {} Tryz.checked os 5 .any (fun w args=>(Rows.univarBasicsSpec.pre enc Tryz.prog Tryz.f5 [] false w args∧laidMetH Tryz.prog laid3 w)∧sizedMet enc Tryz.prog Tryz.f5 (OpenSpec.ofChange Rows.univarBasicsSpec) false w args)
   (Rows.univarBasicsSpec.post enc Tryz.prog Tryz.f5 false true false false):=by
 refine returnsInHanded_of_change_and (C:=Tryz.checked) (X:=fun w _=>laidMetH Tryz.prog laid3 w) (fun _ _ _ hh h=>h.of_heap hh) own started (by kernel_rfl) Tryz.func5
  (ChangeSpec.witness_shaped (enc:=enc) (C:=Tryz.checked) (os:=os) (X:=fun w _=>laidMetH Tryz.prog laid3 w) false (World.doorLaid Tryz.prog 400 os) #[.slice none 0 0,.string ⟨#[]⟩] 8 rfl (World.shaped_of_RefB (by kernel_rfl) (by kernel_rfl)) (by kernel_rfl) (by kernel_rfl) (by kernel_rfl) (door_met os _)) ?_
 intro W base args ds gs before hval0 hW _ _ hL _
 have hval:∀(j:Nat) t v,Tryz.f5.params[j]? =some t→args[j]? =some v→Value.okWide Tryz.prog W .any base t v:=hval0
 have hW':=hW
 obtain⟨p,q,hA0,hV,rfl,hfz,hnd⟩:=hW
 have hA:DataW.TrodAll enc Tryz.prog W 0 (fun _=>true) true Tryz.f5.params.toList args.toList ds p:=hA0
 rw[Tryz.params5] at hA hval
 obtain⟨v0,v1,d0,d1,p0,p1,rfl,rfl,rfl,h0,h1⟩:=trodAll_two hA
 obtain⟨rfl,rfl⟩:=trodVars_none hV
 obtain⟨a0,l0,c0,rfl⟩:=okWide_slice Tryz.underlying22 (hval 0 22 v0 rfl rfl)
 have h0k:=h0
 have h1k:=h1
 obtain⟨fuel0,hf0⟩:=h0
 obtain⟨s,rfl,rfl,rfl,ws⟩:=open_string Tryz.underlying9 (hval 1 9 v1 rfl rfl) h1
 clear hA0 hval0
 simp only[List.append_nil] at hW'
 obtain⟨ls0,s0,b0⟩:=open_texts hf0
 have hlt:∀x∈p0,x.block<W.heap.size:=fun x hx=>by simpa using hW'.lt x hx
 have hsl:s.data.toList.length≤9223372036854775807:=by unfold maxLen at ws;simpa using ws
 have hcall:=basics_any ls0 s.data.toList _ W (glob_of_laid hL) s0 b0 hsl
 rw[show(⟨s.data.toList.toArray⟩:ByteArray)=s from by cases s;simp] at hcall
 refine hcall.mono fun e W' ⟨he,hb⟩=> ?_
 subst he
 refine⟨_,rfl,law_post hW' rfl (by kernel_rfl) Tryz.underlying4 rfl (fun sp hsp=> ?_) hb⟩
 have hr:Tryz.prog.readableRec 22=true:=by kernel_rfl
 have hn:22<Tryz.prog.types.size:=by decide+kernel
 have hrs:Tryz.prog.readableRec 9=true:=by kernel_rfl
 have hns:9<Tryz.prog.types.size:=by decide+kernel
 have hT:=trodAll_mk2 (Trod_stays laidOut hr hn h0k (fun x hx=>hb.same (hlt x hx)) (fun x hx=>hsp x (by simpa using hx)))
  (Trod_stays laidOut hrs hns h1k (fun x hx=>by cases hx) (fun x hx=>by cases hx))
 rw[List.append_nil] at hT
 exact hT
theorem basics_holds:Rows.UnivarBasicsSaid:=
 OpenClaim.holds_of_wide 5 Tryz.f5 rfl rfl rfl rfl rfl rfl rfl ⟨rfl,rfl,rfl,rfl,rfl⟩ rfl rfl rfl rfl rfl (by kernel_rfl) Tryz.func5 (by kernel_rfl)
  (of_decide_eq_true (by kernel_rfl)) (by unfold Func.isWrapper;first|(rw[if_pos (by decide+kernel)];kernel_rfl)|(rw[if_neg (by decide+kernel)];exact⟨rfl,rfl⟩))
  (fun os started H enc _=>basics_lifted os started H enc)
theorem basics_card:Rows.UnivarBasicsCardSaid:=
 Claim7.holds_tied_plain_at .later [] [.data,.data,.data] true Rows.univarBasicsCard.stood.harness false
  basics_holds (fun _ h=>by cases h) (by kernel_rfl) (fun _ h=>by cases h) univarBasics_row_tie rfl ⟨rfl,rfl⟩ (by kernel_rfl) rfl
  (fun f fn hf hfn=>by
   obtain rfl:f=5:=Option.some.inj ((show Tryz.prog.funcNamed "sosopt/sosoptlaw08.UnivarBasics" =some 5 by kernel_rfl).symm.trans hf) |>.symm
   obtain rfl:fn=Tryz.f5:=(Option.some.inj (Tryz.func5.symm.trans hfn)).symm
   exact⟨by kernel_rfl,fun j t ht=>by
    rw[Tryz.params5] at ht
    have hm:t∈[22,9]:=by simpa using Array.mem_of_getElem? ht
    have hall:([22,9].all fun u=> !Tryz.prog.wantsStandIn u)=true:=by kernel_rfl
    exact(show Tryz.prog.wantsStandIn t=false by simpa using List.all_eq_true.1 hall t hm)⟩)
  (by kernel_rfl)
#print axioms basics_card
end Go.Proofs.YtlojjipfnejbnaaGreatDoor
