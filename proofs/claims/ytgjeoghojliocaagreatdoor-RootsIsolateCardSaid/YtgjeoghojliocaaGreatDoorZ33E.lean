/-
  sosoptlaw09.RootsIsolate: for every list of texts and every interval of two texts the call returns true and leaves its arguments as they were (the card 'RootsIsolateCardSaid'; the condition: the three listed tables of Go's library hold what the program's text lays in them).
-/
import Derived.Test.YtgjeoghojliocaaGreatDoorCards
import Derived.Test.YtgjeoghojliocaaGreatDoorTie
import Derived.Test.YtgjeoghojliocaaGreatDoorE32
import Derived.SevenTiedAt
import Derived.ChangeMaps5
import Derived.Lib.SmallJoins
set_option linter.all false
set_option maxHeartbeats 8000000
set_option maxRecDepth 99999
namespace Go.Proofs.YtgjeoghojliocaaGreatDoor
open Go.ChangeMaps Go.ChangeShapes Go.WideShapes Go.ChangeAt Go.WideMaps Go.WideElems Go.RowKit Go.Proofs.Tryz
theorem isol_lifted(os:Os)(V:os.Started)(H:Type)(enc:TypeId×Value->H):
  ReturnsInHanded {} Tryz.checked os 3 .any (fun w args=>(Rows.rootsIsolateSpec.pre enc prog Tryz.f3 [] false w args∧laidMetH prog uX w)∧sizedMet enc prog Tryz.f3 (OpenSpec.ofChange Rows.rootsIsolateSpec) false w args)
   (Rows.rootsIsolateSpec.post enc prog Tryz.f3 false true false false):=by
 refine returnsInHanded_of_change_and (C:=Tryz.checked) (X:=fun w _=>laidMetH prog uX w) (fun _ _ _ M h=>h.of_heap M) own V (by kernel_rfl) func3
  (ChangeSpec.witness_shaped (enc:=enc) (C:=Tryz.checked) (os:=os) (X:=fun w _=>laidMetH prog uX w) false (World.doorLaid prog 400 os) #[.slice none 0 0,.agg #[.string ⟨#[]⟩,.string ⟨#[]⟩]] 8 rfl (World.shaped_of_RefB (by kernel_rfl) (by kernel_rfl)) (by kernel_rfl) (by kernel_rfl) (by kernel_rfl) (ayX os _)) ?_
 intro W D args E gs ac A o _ _ I _;have c:∀(j:Nat) t v,Tryz.f3.params[j]? =some t->args[j]? =some v->Value.okWide prog W .any D t v:=A;have b:=o;obtain⟨p,q,l,J,rfl,ae,af⟩:=o;have k:DataW.TrodAll enc prog W 0 (fun _=>true) true Tryz.f3.params.toList args.toList E p:=l;rw[Tryz.params3] at k c;obtain⟨v0,v1,d0,d1,T,p1,rfl,rfl,rfl,g,i⟩:=trodAll_two k;obtain⟨rfl,rfl⟩:=trodVars_none J;obtain⟨a0,l0,c0,rfl⟩:=okWide_slice underlying22 (c 0 22 v0 rfl rfl);have F:=g;have G:=i;obtain⟨ad,L⟩:=g;obtain⟨u0,u1,y0,y1,m,rfl,rfl,rfl,Y,Z⟩:=Joins.open_agg2 underlying24 (by kernel_rfl) (by kernel_rfl) (c 1 24 v1 rfl rfl) i;obtain⟨s,d,rfl,ws⟩:=DataW.trod_string underlying9 Y;obtain⟨t,f,rfl,wt⟩:=DataW.trod_string underlying9 Z;simp at d f;subst d f;clear l A;simp only[List.append_nil] at b;obtain⟨S,U,B⟩:=az1 L;have N:∀x∈T,x.block<W.heap.size:=fun x a=>by simpa using b.lt x (by simpa using a)
 have z:∀s:ByteArray,s.size<=maxLen->s.data.toList.length<=9223372036854775807:=fun s h=>by unfold maxLen at h;simpa using h
 have y:∀s:ByteArray,(⟨s.data.toList.toArray⟩:ByteArray)=s:=fun s=>by cases s;simp
 have u:=M3 S s.data.toList t.data.toList _ W (az0 I) U B (z s ws) (z t wt);rw[y,y] at u;refine u.mono fun e W' ⟨K,r⟩=> ?_;subst K;refine⟨_,rfl,az2 b rfl (by kernel_rfl) underlying4 rfl (fun sp R=> ?_) r⟩;have P:Tryz.prog.readableRec 22=true:=by kernel_rfl
 have hn:22<Tryz.prog.types.size:=by decide+kernel
 have Q:Tryz.prog.readableRec 24=true:=by kernel_rfl
 have O:24<Tryz.prog.types.size:=by decide+kernel
 have n:=trodAll_mk2 (Trod_stays LZ P hn F (fun x a=>r.same (N x a)) (fun x a=>R x (by simp[a])))
  (Trod_stays LZ Q O G (fun x a=>by cases a) (fun x a=>by cases a))
 simp only[List.append_nil] at n;exact n
theorem isol_holds:Rows.RootsIsolateSaid:=
 OpenClaim.holds_of_wide 3 Tryz.f3 rfl rfl rfl rfl rfl rfl rfl ⟨rfl,rfl,rfl,rfl,rfl⟩ rfl rfl rfl rfl rfl (by kernel_rfl) func3 (by kernel_rfl)
  (of_decide_eq_true (by kernel_rfl)) (by unfold Func.isWrapper;first|(rw[if_pos (by decide+kernel)];kernel_rfl)|(rw[if_neg (by decide+kernel)];exact⟨rfl,rfl⟩))
  (fun b c H a _=>isol_lifted b c H a)
theorem isol_card:Rows.RootsIsolateCardSaid:=
 Claim7.holds_tied_plain_at .later [] [.data,.data,.data] true Rows.rootsIsolateCard.stood.harness false
  isol_holds (fun _ h=>by cases h) (by kernel_rfl) (fun _ h=>by cases h) rootsIsolate_row_tie rfl ⟨rfl,rfl⟩ (by kernel_rfl) rfl
  (fun f b d e=>by
   obtain rfl:f=3:=Option.some.inj ((show Tryz.prog.funcNamed "sosopt/sosoptlaw09.RootsIsolate" =some 3 by kernel_rfl).symm.trans d) |>.symm;obtain rfl:b=Tryz.f3:=(Option.some.inj (Tryz.func3.symm.trans e)).symm
   exact⟨by kernel_rfl,fun j t a=>by
    rw[Tryz.params3] at a;have g:t∈[22,24]:=by simpa using Array.mem_of_getElem? a
    have c:([22,24].all fun u=> !Tryz.prog.wantsStandIn u)=true:=by kernel_rfl
    exact(show Tryz.prog.wantsStandIn t=false by simpa using List.all_eq_true.1 c t g)⟩)
  (by kernel_rfl)
#print axioms isol_card
end Go.Proofs.YtgjeoghojliocaaGreatDoor
