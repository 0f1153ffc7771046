/-
  sosoptlaw08.UnivarArithmetic: for all lists of texts and every text the call returns true and leaves its arguments as they were (the card 'UnivarArithmeticCardSaid'; the condition: the three listed tables of Go's library hold what the program's text lays in them).
-/
import Derived.Test.YtlojjipfnejbnaaGreatDoorCards
import Derived.Test.YtlojjipfnejbnaaGreatDoorTie
import Derived.Test.YtlojjipfnejbnaaGreatDoorS43
import Derived.Test.YtlojjipfnejbnaaGreatDoorS44
import Derived.SevenTiedAt
import Derived.ChangeMaps5
set_option linter.unusedVariables false
set_option linter.unusedSimpArgs false
set_option maxHeartbeats 8000000
set_option maxRecDepth 100000
namespace Go.Proofs.YtlojjipfnejbnaaGreatDoor
open Go.ChangeMaps Go.ChangeShapes Go.WideShapes Go.ChangeAt Go.WideMaps Go.WideElems Go.RowKit
theorem arith_lifted (os:Os) (started:os.Started) (H:Type) (enc:TypeId×Value→H):
  ReturnsInHanded {} Tryz.checked os 7 .any (fun w args=>(Rows.univarArithmeticSpec.pre enc Tryz.prog Tryz.f7 [] false w args∧laidMetH Tryz.prog nF w)∧sizedMet enc Tryz.prog Tryz.f7 (OpenSpec.ofChange Rows.univarArithmeticSpec) false w args)
   (Rows.univarArithmeticSpec.post enc Tryz.prog Tryz.f7 false true false false):=by
 refine returnsInHanded_of_change_and (C:=Tryz.checked) (X:=fun w _=>laidMetH Tryz.prog nF w) (fun _ _ _ hh h=>h.of_heap hh) own started (by kernel_rfl) Tryz.func7
  (ChangeSpec.witness_shaped (enc:=enc) (C:=Tryz.checked) (os:=os) (X:=fun w _=>laidMetH Tryz.prog nF w) false (World.doorLaid Tryz.prog 400 os) #[.slice none 0 0,.slice none 0 0,.string ⟨#[]⟩] 8 rfl (World.shaped_of_RefB (by kernel_rfl) (by kernel_rfl)) (by kernel_rfl) (by kernel_rfl) (by kernel_rfl) (I9 os _)) ?_
 intro W base args ds gs before hval0 hW _ _ hL _;have hval:∀(j:Nat) t v,Tryz.f7.params[j]? =some t→args[j]? =some v→Value.okWide Tryz.prog W .any base t v:=hval0;have hW':=hW;obtain⟨p,q,hA0,hV,rfl,hfz,hnd⟩:=hW;have hA:DataW.TrodAll enc Tryz.prog W 0 (fun _=>true) true Tryz.f7.params.toList args.toList ds p:=hA0;rw[Tryz.params7] at hA hval;obtain⟨v0,v1,v2,d0,d1,d2,p0,p1,p2,rfl,rfl,rfl,h0,h1,h2⟩:=trodAll_three hA;obtain⟨rfl,rfl⟩:=trodVars_none hV;obtain⟨a0,l0,c0,rfl⟩:=okWide_slice Tryz.underlying22 (hval 0 22 v0 rfl rfl);obtain⟨a1,l1,c1,rfl⟩:=okWide_slice Tryz.underlying22 (hval 1 22 v1 rfl rfl);have h0k:=h0;have h1k:=h1;have h2k:=h2;obtain⟨fuel0,hf0⟩:=h0;obtain⟨fuel1,hf1⟩:=h1;obtain⟨s,rfl,rfl,rfl,ws⟩:=open_string Tryz.underlying9 (hval 2 9 v2 rfl rfl) h2;clear hA0 hval0;simp only[List.append_nil] at hW';obtain⟨ls0,s0,b0⟩:=uR hf0;obtain⟨ls1,s1,b1⟩:=uR hf1;have hlt:∀x∈p0++p1,x.block<W.heap.size:=fun x hx=>by simpa using hW'.lt x (by simpa using hx)
 have hsl:s.data.toList.length≤9223372036854775807:=by unfold maxLen at ws;simpa using ws
 have hcall:=IX ls0 ls1 s.data.toList _ _ W (IA hL) s0 s1 b0 b1 hsl;rw[show(⟨s.data.toList.toArray⟩:ByteArray)=s from by cases s;simp] at hcall;refine hcall.mono fun e W' ⟨he,hb⟩=> ?_;subst he;refine⟨_,rfl,IB hW' rfl (by kernel_rfl) Tryz.underlying4 rfl (fun sp hsp=> ?_) hb⟩;have hr:Tryz.prog.readableRec 22=true:=by kernel_rfl
 have hn:22<Tryz.prog.types.size:=by decide+kernel
 have hrs:Tryz.prog.readableRec 9=true:=by kernel_rfl
 have hns:9<Tryz.prog.types.size:=by decide+kernel
 have hT:=trodAll_mk3 (Trod_stays rE hr hn h0k (fun x hx=>hb.same (hlt x (List.mem_append_left _ hx))) (fun x hx=>hsp x (by simp[hx])))
  (Trod_stays rE hr hn h1k (fun x hx=>hb.same (hlt x (List.mem_append_right _ hx))) (fun x hx=>hsp x (by simp[hx])))
  (Trod_stays rE hrs hns h2k (fun x hx=>by cases hx) (fun x hx=>by cases hx))
 rw[List.append_nil] at hT;exact hT
theorem arith_holds:Rows.UnivarArithmeticSaid:=
 OpenClaim.holds_of_wide 7 Tryz.f7 rfl rfl rfl rfl rfl rfl rfl ⟨rfl,rfl,rfl,rfl,rfl⟩ rfl rfl rfl rfl rfl (by kernel_rfl) Tryz.func7 (by kernel_rfl)
  (of_decide_eq_true (by kernel_rfl)) (by unfold Func.isWrapper;first|(rw[if_pos (by decide+kernel)];kernel_rfl)|(rw[if_neg (by decide+kernel)];exact⟨rfl,rfl⟩))
  (fun os started H enc _=>arith_lifted os started H enc)
theorem arith_card:Rows.UnivarArithmeticCardSaid:=
 Claim7.holds_tied_plain_at .later [] [.data,.data,.data] true Rows.univarArithmeticCard.stood.harness false
  arith_holds (fun _ h=>by cases h) (by kernel_rfl) (fun _ h=>by cases h) univarArithmetic_row_tie rfl ⟨rfl,rfl⟩ (by kernel_rfl) rfl
  (fun f fn hf hfn=>by
   obtain rfl:f=7:=Option.some.inj ((show Tryz.prog.funcNamed "sosopt/sosoptlaw08.UnivarArithmetic" =some 7 by kernel_rfl).symm.trans hf) |>.symm;obtain rfl:fn=Tryz.f7:=(Option.some.inj (Tryz.func7.symm.trans hfn)).symm
   exact⟨by kernel_rfl,fun j t ht=>by
    rw[Tryz.params7] at ht;have hm:t∈[22,22,9]:=by simpa using Array.mem_of_getElem? ht
    have hall:([22,22,9].all fun u=> !Tryz.prog.wantsStandIn u)=true:=by kernel_rfl
    exact(show Tryz.prog.wantsStandIn t=false by simpa using List.all_eq_true.1 hall t hm)⟩)
  (by kernel_rfl)
#print axioms arith_card
end Go.Proofs.YtlojjipfnejbnaaGreatDoor
