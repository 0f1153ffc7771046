/-
  sosoptlaw09.RootsAdditive: for every list of texts and every three texts the call returns true and leaves its arguments as they were (the card 'RootsAdditiveCardSaid'; the condition: the three listed tables of Go's library hold what the program's text lays in them).
-/
import Derived.Test.YtbhplgdbfmifkaaGreatDoorCards
import Derived.Test.YtbhplgdbfmifkaaGreatDoorTie
import Derived.Test.YtbhplgdbfmifkaaGreatDoorI42
import Derived.Test.YtbhplgdbfmifkaaGreatDoorI43
import Derived.SevenTiedAt
import Derived.ChangeMaps5
set_option linter.unusedVariables false
set_option linter.unusedSimpArgs false
set_option maxHeartbeats 8000000
set_option maxRecDepth 100000
namespace Go.Proofs.YtbhplgdbfmifkaaGreatDoor
open Go.ChangeMaps Go.ChangeShapes Go.WideShapes Go.ChangeAt Go.WideMaps Go.WideElems Go.RowKit
theorem addi_lifted (os:Os) (started:os.Started) (H:Type) (enc:TypeId×Value→H):
  ReturnsInHanded {} Tryz.checked os 4 .any (fun w args=>(Rows.rootsAdditiveSpec.pre enc Tryz.prog Tryz.f4 [] false w args∧laidMetH Tryz.prog nF w)∧sizedMet enc Tryz.prog Tryz.f4 (OpenSpec.ofChange Rows.rootsAdditiveSpec) false w args)
   (Rows.rootsAdditiveSpec.post enc Tryz.prog Tryz.f4 false true false false):=by
 refine returnsInHanded_of_change_and (C:=Tryz.checked) (X:=fun w _=>laidMetH Tryz.prog nF w) (fun _ _ _ hh h=>h.of_heap hh) own started (by kernel_rfl) Tryz.func4
  (ChangeSpec.witness_shaped (enc:=enc) (C:=Tryz.checked) (os:=os) (X:=fun w _=>laidMetH Tryz.prog nF w) false (World.doorLaid Tryz.prog 400 os) #[.slice none 0 0,.string ⟨#[]⟩,.string ⟨#[]⟩,.string ⟨#[]⟩] 8 rfl (World.shaped_of_RefB (by kernel_rfl) (by kernel_rfl)) (by kernel_rfl) (by kernel_rfl) (by kernel_rfl) (I9 os _)) ?_
 intro W base args ds gs before hval0 hW _ _ hL _;have hval:∀(j:Nat) t v,Tryz.f4.params[j]? =some t→args[j]? =some v→Value.okWide Tryz.prog W .any base t v:=hval0;have hW':=hW;obtain⟨p,q,hA0,hV,rfl,hfz,hnd⟩:=hW;have hA:DataW.TrodAll enc Tryz.prog W 0 (fun _=>true) true Tryz.f4.params.toList args.toList ds p:=hA0;rw[Tryz.params4] at hA hval;obtain⟨v0,v1,v2,v3,d0,d1,d2,d3,p0,p1,p2,p3,rfl,rfl,rfl,h0,h1,h2,h3⟩:=trodAll_four hA;obtain⟨rfl,rfl⟩:=trodVars_none hV;obtain⟨a0,l0,c0,rfl⟩:=okWide_slice Tryz.underlying22 (hval 0 22 v0 rfl rfl);have h0k:=h0;have h1k:=h1;have h2k:=h2;have h3k:=h3;obtain⟨fuel0,hf0⟩:=h0;obtain⟨s,rfl,rfl,rfl,ws⟩:=open_string Tryz.underlying9 (hval 1 9 v1 rfl rfl) h1;obtain⟨t,rfl,rfl,rfl,wt⟩:=open_string Tryz.underlying9 (hval 2 9 v2 rfl rfl) h2;obtain⟨u,rfl,rfl,rfl,wu⟩:=open_string Tryz.underlying9 (hval 3 9 v3 rfl rfl) h3;clear hA0 hval0;simp only[List.append_nil] at hW';obtain⟨ls0,s0,b0⟩:=uR hf0;have hlt:∀x∈p0,x.block<W.heap.size:=fun x hx=>by simpa using hW'.lt x (by simpa using hx)
 have hsl:∀s:ByteArray,s.size≤maxLen→s.data.toList.length≤9223372036854775807:=fun s h=>by unfold maxLen at h;simpa using h
 have hse:∀s:ByteArray,(⟨s.data.toList.toArray⟩:ByteArray)=s:=fun s=>by cases s;simp
 have hcall:=K1 ls0 s.data.toList t.data.toList u.data.toList _ W (IA hL) s0 b0 (hsl s ws) (hsl t wt) (hsl u wu);rw[hse,hse,hse] at hcall;refine hcall.mono fun e W' ⟨he,hb⟩=> ?_;subst he;refine⟨_,rfl,IB hW' rfl (by kernel_rfl) Tryz.underlying4 rfl (fun sp hsp=> ?_) hb⟩;have hr:Tryz.prog.readableRec 22=true:=by kernel_rfl
 have hn:22<Tryz.prog.types.size:=by decide+kernel
 have hrs:Tryz.prog.readableRec 9=true:=by kernel_rfl
 have hns:9<Tryz.prog.types.size:=by decide+kernel
 have hT:=trodAll_mk4 (Trod_stays rE hr hn h0k (fun x hx=>hb.same (hlt x hx)) (fun x hx=>hsp x (by simp[hx])))
  (Trod_stays rE hrs hns h1k (fun x hx=>by cases hx) (fun x hx=>by cases hx))
  (Trod_stays rE hrs hns h2k (fun x hx=>by cases hx) (fun x hx=>by cases hx))
  (Trod_stays rE hrs hns h3k (fun x hx=>by cases hx) (fun x hx=>by cases hx))
 simp only[List.append_nil] at hT;exact hT
theorem addi_holds:Rows.RootsAdditiveSaid:=
 OpenClaim.holds_of_wide 4 Tryz.f4 rfl rfl rfl rfl rfl rfl rfl ⟨rfl,rfl,rfl,rfl,rfl⟩ rfl rfl rfl rfl rfl (by kernel_rfl) Tryz.func4 (by kernel_rfl)
  (of_decide_eq_true (by kernel_rfl)) (by unfold Func.isWrapper;first|(rw[if_pos (by decide+kernel)];kernel_rfl)|(rw[if_neg (by decide+kernel)];exact⟨rfl,rfl⟩))
  (fun os started H enc _=>addi_lifted os started H enc)
theorem addi_card:Rows.RootsAdditiveCardSaid:=
 Claim7.holds_tied_plain_at .later [] [.data,.data,.data] true Rows.rootsAdditiveCard.stood.harness false
  addi_holds (fun _ h=>by cases h) (by kernel_rfl) (fun _ h=>by cases h) rootsAdditive_row_tie rfl ⟨rfl,rfl⟩ (by kernel_rfl) rfl
  (fun f fn hf hfn=>by
   obtain rfl:f=4:=Option.some.inj ((show Tryz.prog.funcNamed "sosopt/sosoptlaw09.RootsAdditive" =some 4 by kernel_rfl).symm.trans hf) |>.symm;obtain rfl:fn=Tryz.f4:=(Option.some.inj (Tryz.func4.symm.trans hfn)).symm
   exact⟨by kernel_rfl,fun j t ht=>by
    rw[Tryz.params4] at ht;have hm:t∈[22,9,9,9]:=by simpa using Array.mem_of_getElem? ht
    have hall:([22,9,9,9].all fun u=> !Tryz.prog.wantsStandIn u)=true:=by kernel_rfl
    exact(show Tryz.prog.wantsStandIn t=false by simpa using List.all_eq_true.1 hall t hm)⟩)
  (by kernel_rfl)
#print axioms addi_card
end Go.Proofs.YtbhplgdbfmifkaaGreatDoor
