/-
  sosoptlaw09.RootsNonNegative: for every list of texts and every text the call returns true and leaves its arguments as they were (the card 'RootsNonNegativeCardSaid'; the condition: the three listed tables of Go's library hold what the program's text lays in them).
-/
import Derived.Test.YtbmafhclcdcepaaGreatDoorCards
import Derived.Test.YtbmafhclcdcepaaGreatDoorTie
import Derived.Test.YtbmafhclcdcepaaGreatDoorP33
import Derived.SevenTiedAt
import Derived.ChangeMaps5
set_option linter.all false
set_option maxHeartbeats 8000000
set_option maxRecDepth 99999
namespace Go.Proofs.YtbmafhclcdcepaaGreatDoor
open Go.ChangeMaps Go.ChangeShapes Go.WideShapes Go.ChangeAt Go.WideMaps Go.WideElems Go.RowKit Go.Proofs.Tryz
theorem nonneg_lifted(os:Os)(S:os.Started)(H:Type)(enc:TypeId×Value->H):
  ReturnsInHanded {} Tryz.checked os 3 .any (fun w args=>(Rows.rootsNonNegativeSpec.pre enc prog Tryz.f3 [] false w args∧laidMetH prog uX w)∧sizedMet enc prog Tryz.f3 (OpenSpec.ofChange Rows.rootsNonNegativeSpec) false w args)
   (Rows.rootsNonNegativeSpec.post enc prog Tryz.f3 false true false false):=by
 refine returnsInHanded_of_change_and (C:=Tryz.checked) (X:=fun w _=>laidMetH prog uX w) (fun _ _ _ G h=>h.of_heap G) own S (by kernel_rfl) func3
  (ChangeSpec.witness_shaped (enc:=enc) (C:=Tryz.checked) (os:=os) (X:=fun w _=>laidMetH prog uX w) false (World.doorLaid prog 400 os) #[.slice none 0 0,.string ⟨#[]⟩] 8 rfl (World.shaped_of_RefB (by kernel_rfl) (by kernel_rfl)) (by kernel_rfl) (by kernel_rfl) (by kernel_rfl) (ayX os _)) ?_
 intro W u args y gs ac o l _ _ B _;have c:∀(j:Nat) t v,Tryz.f3.params[j]? =some t->args[j]? =some v->Value.okWide prog W .any u t v:=o;have b:=l;obtain⟨p,q,i,D,rfl,ae,af⟩:=l;have g:DataW.TrodAll enc prog W 0 (fun _=>true) true Tryz.f3.params.toList args.toList y p:=i;rw[Tryz.params3] at g c;obtain⟨T,U,d0,d1,Q,p1,rfl,rfl,rfl,d,f⟩:=trodAll_two g;obtain⟨rfl,rfl⟩:=trodVars_none D;obtain⟨Z,l0,c0,rfl⟩:=okWide_slice underlying22 (c 0 22 T rfl rfl);have z:=d;have A:=f;obtain⟨ad,F⟩:=d;obtain⟨s,rfl,rfl,rfl,V⟩:=open_string underlying9 (c 1 9 U rfl rfl) f;clear i o;simp only[List.append_nil] at b;obtain⟨P,R,r⟩:=az1 F;have I:∀x∈Q,x.block<W.heap.size:=fun x a=>by simpa using b.lt x (by simpa using a)
 have N:∀s:ByteArray,s.size<=maxLen->s.data.toList.length<=9223372036854775807:=fun s h=>by unfold maxLen at h;simpa using h
 have M:∀s:ByteArray,(⟨s.data.toList.toArray⟩:ByteArray)=s:=fun s=>by cases s;simp
 have n:=bx7 P s.data.toList _ W (az0 B) R r (N s V);rw[M] at n;refine n.mono fun e Y ⟨E,m⟩=> ?_;subst E;refine⟨_,rfl,az2 b rfl (by kernel_rfl) underlying4 rfl (fun sp O=> ?_) m⟩;have K:Tryz.prog.readableRec 22=true:=by kernel_rfl
 have hn:22<Tryz.prog.types.size:=by decide+kernel
 have L:Tryz.prog.readableRec 9=true:=by kernel_rfl
 have J:9<Tryz.prog.types.size:=by decide+kernel
 have k:=trodAll_mk2 (Trod_stays LZ K hn z (fun x a=>m.same (I x a)) (fun x a=>O x (by simp[a])))
  (Trod_stays LZ L J A (fun x a=>by cases a) (fun x a=>by cases a))
 simp only[List.append_nil] at k;exact k
theorem nonneg_holds:Rows.RootsNonNegativeSaid:=
 OpenClaim.holds_of_wide 3 Tryz.f3 rfl rfl rfl rfl rfl rfl rfl ⟨rfl,rfl,rfl,rfl,rfl⟩ rfl rfl rfl rfl rfl (by kernel_rfl) func3 (by kernel_rfl)
  (of_decide_eq_true (by kernel_rfl)) (by unfold Func.isWrapper;first|(rw[if_pos (by decide+kernel)];kernel_rfl)|(rw[if_neg (by decide+kernel)];exact⟨rfl,rfl⟩))
  (fun b c H a _=>nonneg_lifted b c H a)
theorem nonneg_card:Rows.RootsNonNegativeCardSaid:=
 Claim7.holds_tied_plain_at .later [] [.data,.data,.data] true Rows.rootsNonNegativeCard.stood.harness false
  nonneg_holds (fun _ h=>by cases h) (by kernel_rfl) (fun _ h=>by cases h) rootsNonNegative_row_tie rfl ⟨rfl,rfl⟩ (by kernel_rfl) rfl
  (fun f b d e=>by
   obtain rfl:f=3:=Option.some.inj ((show Tryz.prog.funcNamed "sosopt/sosoptlaw09.RootsNonNegative" =some 3 by kernel_rfl).symm.trans d) |>.symm;obtain rfl:b=Tryz.f3:=(Option.some.inj (Tryz.func3.symm.trans e)).symm
   exact⟨by kernel_rfl,fun j t a=>by
    rw[Tryz.params3] at a;have g:t∈[22,9]:=by simpa using Array.mem_of_getElem? a
    have c:([22,9].all fun u=> !Tryz.prog.wantsStandIn u)=true:=by kernel_rfl
    exact(show Tryz.prog.wantsStandIn t=false by simpa using List.all_eq_true.1 c t g)⟩)
  (by kernel_rfl)
#print axioms nonneg_card
end Go.Proofs.YtbmafhclcdcepaaGreatDoor
