/-
  sosoptlaw09.RootsRefined: for every list of texts, every integer and every text the call returns true and leaves its arguments as they were (the card 'RootsRefinedCardSaid'; the condition: the three listed tables of Go's library hold what the program's text lays in them).
-/
import Derived.Test.YtpjpfjephpgcbaaGreatDoorCards
import Derived.Test.YtpjpfjephpgcbaaGreatDoorTie
import Derived.Test.YtpjpfjephpgcbaaGreatDoorR31
import Derived.SevenTiedAt
import Derived.ChangeMaps5
set_option linter.all false
set_option maxHeartbeats 8000000
set_option maxRecDepth 99999
namespace Go.Proofs.YtpjpfjephpgcbaaGreatDoor
open Go.ChangeMaps Go.ChangeShapes Go.WideShapes Go.ChangeAt Go.WideMaps Go.WideElems Go.RowKit Go.Proofs.Tryz
theorem rfdd_lifted(os:Os)(ad:os.Started)(H:Type)(enc:TypeId×Value->H):
  ReturnsInHanded {} Tryz.checked os 4 .any (fun w args=>(Rows.rootsRefinedSpec.pre enc prog Tryz.f4 [] false w args∧laidMetH prog uX w)∧sizedMet enc prog Tryz.f4 (OpenSpec.ofChange Rows.rootsRefinedSpec) false w args)
   (Rows.rootsRefinedSpec.post enc prog Tryz.f4 false true false false):=by
 refine returnsInHanded_of_change_and (C:=Tryz.checked) (X:=fun w _=>laidMetH prog uX w) (fun _ _ _ L h=>h.of_heap L) own ad (by kernel_rfl) func4
  (ChangeSpec.witness_shaped (enc:=enc) (C:=Tryz.checked) (os:=os) (X:=fun w _=>laidMetH prog uX w) false (World.doorLaid prog 400 os) #[.slice none 0 0,.int .i64 0,.string ⟨#[]⟩] 8 rfl (World.shaped_of_RefB (by kernel_rfl) (by kernel_rfl)) (by kernel_rfl) (by kernel_rfl) (by kernel_rfl) (ayX os _)) ?_
 intro W A args B gs ae u n _ _ G _;have b:∀(j:Nat) t v,Tryz.f4.params[j]? =some t->args[j]? =some v->Value.okWide prog W .any A t v:=u;have c:=n;obtain⟨p,q,l,I,rfl,ag,ah⟩:=n;have k:DataW.TrodAll enc prog W 0 (fun _=>true) true Tryz.f4.params.toList args.toList B p:=l;rw[Tryz.params4] at k b;obtain⟨v0,v1,v2,d0,d1,d2,V,p1,p2,rfl,rfl,rfl,f,g,i⟩:=trodAll_three k;obtain⟨rfl,rfl⟩:=trodVars_none I;obtain⟨a0,l0,c0,rfl⟩:=okWide_slice underlying22 (b 0 22 v0 rfl rfl);have D:=f;have E:=g;have F:=i;obtain⟨af,K⟩:=f;obtain⟨R,rfl,rfl,rfl,d⟩:=open_int underlying3 (b 1 3 v1 rfl rfl) g;simp only[Lit.wf,Bool.and_eq_true,decide_eq_true_eq] at d;obtain⟨y,rfl,rfl,rfl,w2⟩:=open_string underlying9 (b 2 9 v2 rfl rfl) i;clear l u;simp only[List.append_nil] at c;obtain⟨Q,s0,z⟩:=az1 K;have M:∀x∈V,x.block<W.1.size:=fun x a=>by simpa using c.lt x (by simp[a])
 have O:∀s:ByteArray,s.size<=maxLen->s.data.toList.length<=9223372036854775807:=fun s h=>by unfold maxLen at h;simpa using h
 have N:∀s:ByteArray,(⟨s.data.toList.toArray⟩:ByteArray)=s:=fun s=>by cases s;simp
 have r:=cxQ Q R y.data.toList _ W (az0 G) s0 z (O y w2) d.1 d.2;rw[N] at r;refine r.mono fun e W' ⟨J,o⟩=> ?_;subst J;refine⟨_,rfl,az2 c rfl (by kernel_rfl) underlying4 rfl (fun sp P=> ?_) o⟩;have ac:Tryz.prog.readableRec 22=true:=by kernel_rfl
 have U:22<Tryz.prog.types.size:=by decide+kernel
 have Y:Tryz.prog.readableRec 3=true:=by kernel_rfl
 have S:3<Tryz.prog.types.size:=by decide+kernel
 have Z:Tryz.prog.readableRec 9=true:=by kernel_rfl
 have T:9<Tryz.prog.types.size:=by decide+kernel
 have m:=trodAll_mk3 (Trod_stays LZ ac U D (fun x a=>o.same (M x a)) (fun x a=>P x (by simp[a])))
  (Trod_stays LZ Y S E (fun x a=>by cases a) (fun x a=>by cases a))
  (Trod_stays LZ Z T F (fun x a=>by cases a) (fun x a=>by cases a))
 simp only[List.append_nil] at m;exact m
theorem rfdd_holds:Rows.RootsRefinedSaid:=
 OpenClaim.holds_of_wide 4 Tryz.f4 rfl rfl rfl rfl rfl rfl rfl ⟨rfl,rfl,rfl,rfl,rfl⟩ rfl rfl rfl rfl rfl (by kernel_rfl) func4 (by kernel_rfl)
  (of_decide_eq_true (by kernel_rfl)) (by unfold Func.isWrapper;first|(rw[if_pos (by decide+kernel)];kernel_rfl)|(rw[if_neg (by decide+kernel)];exact⟨rfl,rfl⟩))
  (fun b c H a _=>rfdd_lifted b c H a)
theorem rfdd_card:Rows.RootsRefinedCardSaid:=
 Claim7.holds_tied_plain_at .later [] [.data,.data,.data] true Rows.rootsRefinedCard.stood.harness false
  rfdd_holds (fun _ h=>by cases h) (by kernel_rfl) (fun _ h=>by cases h) rootsRefined_row_tie rfl ⟨rfl,rfl⟩ (by kernel_rfl) rfl
  (fun f b d e=>by
   obtain rfl:f=4:=Option.some.inj ((show Tryz.prog.funcNamed "sosopt/sosoptlaw09.RootsRefined" =some 4 by kernel_rfl).symm.trans d) |>.symm;obtain rfl:b=Tryz.f4:=(Option.some.inj (Tryz.func4.symm.trans e)).symm
   exact⟨by kernel_rfl,fun j t a=>by
    rw[Tryz.params4] at a;have g:t∈[22,3,9]:=by simpa using Array.mem_of_getElem? a
    have c:([22,3,9].all fun u=> !Tryz.prog.wantsStandIn u)=true:=by kernel_rfl
    exact(show Tryz.prog.wantsStandIn t=false by simpa using List.all_eq_true.1 c t g)⟩)
  (by kernel_rfl)
#print axioms rfdd_card
end Go.Proofs.YtpjpfjephpgcbaaGreatDoor
