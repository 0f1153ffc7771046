/-
  sosoptlaw09.RootsSquares: a square has no negative value, and a square plus a positive number has no roots (the card 'RootsSquaresCardSaid'; the condition: the three listed tables of Go's library hold what the program's text lays in them).
-/
import Derived.Test.YtjgbleapffgbcaaGreatDoorCards
import Derived.Test.YtjgbleapffgbcaaGreatDoorTie
import Derived.Test.YtjgbleapffgbcaaGreatDoorV30
import Derived.SevenTiedAt
import Derived.ChangeMaps5
set_option linter.all false
set_option maxHeartbeats 8000000
set_option maxRecDepth 99999
namespace Go.Proofs.YtjgbleapffgbcaaGreatDoor
open Go.ChangeMaps Go.ChangeShapes Go.WideShapes Go.ChangeAt Go.WideMaps Go.WideElems Go.RowKit Go.Proofs.Tryz
theorem sqs_lifted(os:Os)(Z:os.Started)(H:Type)(enc:TypeId×Value->H):
  ReturnsInHanded {} Tryz.checked os 4 .any (fun w args=>(Rows.rootsSquaresSpec.pre enc prog Tryz.f4 [] false w args∧laidMetH prog uX w)∧sizedMet enc prog Tryz.f4 (OpenSpec.ofChange Rows.rootsSquaresSpec) false w args)
   (Rows.rootsSquaresSpec.post enc prog Tryz.f4 false true false false):=by
 refine returnsInHanded_of_change_and (C:=Tryz.checked) (X:=fun w _=>laidMetH prog uX w) (fun _ _ _ P h=>h.of_heap P) own Z (by kernel_rfl) func4
  (ChangeSpec.witness_shaped (enc:=enc) (C:=Tryz.checked) (os:=os) (X:=fun w _=>laidMetH prog uX w) false (World.doorLaid prog 400 os) #[.slice none 0 0,.string ⟨#[]⟩,.string ⟨#[]⟩] 8 rfl (World.shaped_of_RefB (by kernel_rfl) (by kernel_rfl)) (by kernel_rfl) (by kernel_rfl) (by kernel_rfl) (ayX os _)) ?_
 intro W F args G gs ac y m _ _ L _;have b:∀(j:Nat) t v,Tryz.f4.params[j]? =some t->args[j]? =some v->Value.okWide prog W .any F t v:=y;have c:=m;obtain⟨p,q,k,M,rfl,ae,af⟩:=m;have i:DataW.TrodAll enc prog W 0 (fun _=>true) true Tryz.f4.params.toList args.toList G p:=k;rw[Tryz.params4] at i b;obtain⟨v0,v1,v2,d0,d1,d2,U,p1,p2,rfl,rfl,rfl,d,f,g⟩:=trodAll_three i;obtain⟨rfl,rfl⟩:=trodVars_none M;obtain⟨a0,l0,c0,rfl⟩:=okWide_slice underlying22 (b 0 22 v0 rfl rfl);have I:=d;have J:=f;have K:=g;obtain⟨ad,O⟩:=d;obtain⟨B,rfl,rfl,rfl,w1⟩:=open_string underlying9 (b 1 9 v1 rfl rfl) f;obtain⟨D,rfl,rfl,rfl,w2⟩:=open_string underlying9 (b 2 9 v2 rfl rfl) g;clear k y;simp only[List.append_nil] at c;obtain⟨S,Y,E⟩:=az1 O;have Q:∀x∈U,x.block<W.1.size:=fun x a=>by simpa using c.lt x (by simp[a])
 have u:∀s:ByteArray,s.size<=maxLen->s.data.toList.length<=9223372036854775807:=fun s h=>by unfold maxLen at h;simpa using h
 have r:∀s:ByteArray,(⟨s.data.toList.toArray⟩:ByteArray)=s:=fun s=>by cases s;simp
 have o:=dyX S B.data.toList D.data.toList _ W (az0 L) Y E (u B w1) (u D w2);rw[r,r] at o;refine o.mono fun e W' ⟨N,n⟩=> ?_;subst N;refine⟨_,rfl,az2 c rfl (by kernel_rfl) underlying4 rfl (fun sp R=> ?_) n⟩;have V:Tryz.prog.readableRec 22=true:=by kernel_rfl
 have T:22<Tryz.prog.types.size:=by decide+kernel
 have A:Tryz.prog.readableRec 9=true:=by kernel_rfl
 have z:9<Tryz.prog.types.size:=by decide+kernel
 have l:=trodAll_mk3 (Trod_stays LZ V T I (fun x a=>n.same (Q x a)) (fun x a=>R x (by simp[a])))
  (Trod_stays LZ A z J (fun x a=>by cases a) (fun x a=>by cases a))
  (Trod_stays LZ A z K (fun x a=>by cases a) (fun x a=>by cases a))
 simp only[List.append_nil] at l;exact l
theorem sqs_holds:Rows.RootsSquaresSaid:=
 OpenClaim.holds_of_wide 4 Tryz.f4 rfl rfl rfl rfl rfl rfl rfl ⟨rfl,rfl,rfl,rfl,rfl⟩ rfl rfl rfl rfl rfl (by kernel_rfl) func4 (by kernel_rfl)
  (of_decide_eq_true (by kernel_rfl)) (by unfold Func.isWrapper;first|(rw[if_pos (by decide+kernel)];kernel_rfl)|(rw[if_neg (by decide+kernel)];exact⟨rfl,rfl⟩))
  (fun b c H a _=>sqs_lifted b c H a)
theorem sqs_card:Rows.RootsSquaresCardSaid:=
 Claim7.holds_tied_plain_at .later [] [.data,.data,.data] true Rows.rootsSquaresCard.stood.harness false
  sqs_holds (fun _ h=>by cases h) (by kernel_rfl) (fun _ h=>by cases h) rootsSquares_row_tie rfl ⟨rfl,rfl⟩ (by kernel_rfl) rfl
  (fun f b d e=>by
   obtain rfl:f=4:=Option.some.inj ((show Tryz.prog.funcNamed "sosopt/sosoptlaw09.RootsSquares" =some 4 by kernel_rfl).symm.trans d) |>.symm;obtain rfl:b=Tryz.f4:=(Option.some.inj (Tryz.func4.symm.trans e)).symm
   exact⟨by kernel_rfl,fun j t a=>by
    rw[Tryz.params4] at a;have g:t∈[22,9,9]:=by simpa using Array.mem_of_getElem? a
    have c:([22,9,9].all fun u=> !Tryz.prog.wantsStandIn u)=true:=by kernel_rfl
    exact(show Tryz.prog.wantsStandIn t=false by simpa using List.all_eq_true.1 c t g)⟩)
  (by kernel_rfl)
#print axioms sqs_card
end Go.Proofs.YtjgbleapffgbcaaGreatDoor
