/-
  sosoptlaw08.UnivarGcd: for every two lists of texts the call returns true and leaves its arguments as they were (the card 'UnivarGcdCardSaid'; the condition: the three listed tables of Go's library hold what the program's text lays in them).
-/
import Derived.Test.YtlojjipfnejbnaaGreatDoorCards
import Derived.Test.YtlojjipfnejbnaaGreatDoorTie
import Derived.Test.YtlojjipfnejbnaaGreatDoorS44
import Derived.Test.YtlojjipfnejbnaaGreatDoorT42
import Derived.SevenTiedAt
set_option linter.unusedVariables false
set_option linter.unusedSimpArgs false
set_option maxHeartbeats 8000000
set_option maxRecDepth 100000
namespace Go.Proofs.YtlojjipfnejbnaaGreatDoor
open Go.ChangeShapes Go.WideShapes Go.ChangeAt Go.WideMaps Go.WideElems Go.RowKit
theorem gcdl_lifted (os:Os) (started:os.Started) (H:Type) (enc:TypeId×Value→H):
  ReturnsInHanded {} Tryz.checked os 6 .any (fun w args=>(Rows.univarGcdSpec.pre enc Tryz.prog Tryz.f6 [] false w args∧laidMetH Tryz.prog nF w)∧sizedMet enc Tryz.prog Tryz.f6 (OpenSpec.ofChange Rows.univarGcdSpec) false w args)
   (Rows.univarGcdSpec.post enc Tryz.prog Tryz.f6 false true false false):=by
 refine returnsInHanded_of_change_and (C:=Tryz.checked) (X:=fun w _=>laidMetH Tryz.prog nF w) (fun _ _ _ hh h=>h.of_heap hh) own started (by kernel_rfl) Tryz.func6
  (ChangeSpec.witness_shaped (enc:=enc) (C:=Tryz.checked) (os:=os) (X:=fun w _=>laidMetH Tryz.prog nF w) false (World.doorLaid Tryz.prog 400 os) #[.slice none 0 0,.slice none 0 0] 8 rfl (World.shaped_of_RefB (by kernel_rfl) (by kernel_rfl)) (by kernel_rfl) (by kernel_rfl) (by kernel_rfl) (I9 os _)) ?_
 intro W base args ds gs before hval0 hW _ _ hL _;have hval:∀(j:Nat) t v,Tryz.f6.params[j]? =some t→args[j]? =some v→Value.okWide Tryz.prog W .any base t v:=hval0;have hW':=hW;obtain⟨p,q,hA0,hV,rfl,hfz,hnd⟩:=hW;have hA:DataW.TrodAll enc Tryz.prog W 0 (fun _=>true) true Tryz.f6.params.toList args.toList ds p:=hA0;rw[Tryz.params6] at hA hval;obtain⟨v0,v1,d0,d1,p0,p1,rfl,rfl,rfl,h0,h1⟩:=trodAll_two hA;obtain⟨rfl,rfl⟩:=trodVars_none hV;obtain⟨a0,l0,c0,rfl⟩:=okWide_slice Tryz.underlying22 (hval 0 22 v0 rfl rfl);obtain⟨a1,l1,c1,rfl⟩:=okWide_slice Tryz.underlying22 (hval 1 22 v1 rfl rfl);have h0k:=h0;have h1k:=h1;obtain⟨fuel0,hf0⟩:=h0;obtain⟨fuel1,hf1⟩:=h1;clear hA0 hval0;simp only[List.append_nil] at hW';obtain⟨ls0,s0,b0⟩:=uR hf0;obtain⟨ls1,s1,b1⟩:=uR hf1;have hlt:∀x∈p0++p1,x.block<W.heap.size:=fun x hx=>by simpa using hW'.lt x hx
 refine(VP ls0 ls1 _ _ W (IA hL) s0 s1 b0 b1).mono fun e W' ⟨he,hb⟩=> ?_;subst he;refine⟨_,rfl,IB hW' rfl (by kernel_rfl) Tryz.underlying4 rfl (fun sp hsp=> ?_) hb⟩;have hr:Tryz.prog.readableRec 22=true:=by kernel_rfl
 have hn:22<Tryz.prog.types.size:=by decide+kernel
 exact trodAll_mk2 (Trod_stays rE hr hn h0k (fun x hx=>hb.same (hlt x (List.mem_append_left _ hx))) (fun x hx=>hsp x (List.mem_append_left _ hx)))
  (Trod_stays rE hr hn h1k (fun x hx=>hb.same (hlt x (List.mem_append_right _ hx))) (fun x hx=>hsp x (List.mem_append_right _ hx)))
theorem gcdl_holds:Rows.UnivarGcdSaid:=
 OpenClaim.holds_of_wide 6 Tryz.f6 rfl rfl rfl rfl rfl rfl rfl ⟨rfl,rfl,rfl,rfl,rfl⟩ rfl rfl rfl rfl rfl (by kernel_rfl) Tryz.func6 (by kernel_rfl)
  (of_decide_eq_true (by kernel_rfl)) (by unfold Func.isWrapper;first|(rw[if_pos (by decide+kernel)];kernel_rfl)|(rw[if_neg (by decide+kernel)];exact⟨rfl,rfl⟩))
  (fun os started H enc _=>gcdl_lifted os started H enc)
theorem gcdl_card:Rows.UnivarGcdCardSaid:=
 Claim7.holds_tied_plain_at .later [] [.data,.data,.data] true Rows.univarGcdCard.stood.harness false
  gcdl_holds (fun _ h=>by cases h) (by kernel_rfl) (fun _ h=>by cases h) univarGcd_row_tie rfl ⟨rfl,rfl⟩ (by kernel_rfl) rfl
  (fun f fn hf hfn=>by
   obtain rfl:f=6:=Option.some.inj ((show Tryz.prog.funcNamed "sosopt/sosoptlaw08.UnivarGcd" =some 6 by kernel_rfl).symm.trans hf) |>.symm;obtain rfl:fn=Tryz.f6:=(Option.some.inj (Tryz.func6.symm.trans hfn)).symm
   exact⟨by kernel_rfl,fun j t ht=>by
    rw[Tryz.params6] at ht;have hm:t∈[22,22]:=by simpa using Array.mem_of_getElem? ht
    have hall:([22,22].all fun u=> !Tryz.prog.wantsStandIn u)=true:=by kernel_rfl
    exact(show Tryz.prog.wantsStandIn t=false by simpa using List.all_eq_true.1 hall t hm)⟩)
  (by kernel_rfl)
#print axioms gcdl_card
end Go.Proofs.YtlojjipfnejbnaaGreatDoor
