/-
  sosoptlaw08.UnivarElimination: for every three lists of texts the call returns true and leaves its arguments as they were (the card 'UnivarEliminationCardSaid'; the condition: the three listed tables of Go's library hold what the program's text lays in them).
-/
import Derived.Test.YtpgmdhonnpakeaaGreatDoorCards
import Derived.Test.YtpgmdhonnpakeaaGreatDoorTie
import Derived.Test.YtpgmdhonnpakeaaGreatDoorS26
import Derived.SevenTiedAt
import Derived.ChangeMaps5
set_option linter.all false
set_option maxHeartbeats 8000000
set_option maxRecDepth 99999
namespace Go.Proofs.YtpgmdhonnpakeaaGreatDoor
open Go.ChangeMaps Go.ChangeShapes Go.WideShapes Go.ChangeAt Go.WideMaps Go.WideElems Go.RowKit Go.Proofs.Tryz
theorem elim_lifted(os:Os)(ab:os.Started)(H:Type)(enc:TypeId×Value->H):
  ReturnsInHanded {} Tryz.checked os 4 .any (fun w args=>(Rows.univarEliminationSpec.pre enc prog Tryz.f4 [] false w args∧laidMetH prog uX w)∧sizedMet enc prog Tryz.f4 (OpenSpec.ofChange Rows.univarEliminationSpec) false w args)
   (Rows.univarEliminationSpec.post enc prog Tryz.f4 false true false false):=by
 refine returnsInHanded_of_change_and (C:=Tryz.checked) (X:=fun w _=>laidMetH prog uX w) (fun _ _ _ N h=>h.of_heap N) own ab (by kernel_rfl) func4
  (ChangeSpec.witness_shaped (enc:=enc) (C:=Tryz.checked) (os:=os) (X:=fun w _=>laidMetH prog uX w) false (World.doorLaid prog 400 os) #[.slice none 0 0,.slice none 0 0,.slice none 0 0] 8 rfl (World.shaped_of_RefB (by kernel_rfl) (by kernel_rfl)) (by kernel_rfl) (by kernel_rfl) (by kernel_rfl) (ayX os _)) ?_
 intro W A args B gs ac s r _ _ G _;have d:∀(j:Nat) t v,Tryz.f4.params[j]? =some t->args[j]? =some v->Value.okWide prog W .any A t v:=s;have b:=r;obtain⟨p,q,n,I,rfl,ag,ah⟩:=r;have m:DataW.TrodAll enc prog W 0 (fun _=>true) true Tryz.f4.params.toList args.toList B p:=n;rw[Tryz.params4] at m d;obtain⟨v0,v1,v2,d0,d1,d2,U,V,Y,rfl,rfl,rfl,i,k,l⟩:=trodAll_three m;obtain⟨rfl,rfl⟩:=trodVars_none I;obtain⟨a0,l0,c0,rfl⟩:=okWide_slice underlying22 (d 0 22 v0 rfl rfl);obtain⟨a1,l1,c1,rfl⟩:=okWide_slice underlying22 (d 1 22 v1 rfl rfl);obtain⟨a2,l2,c2,rfl⟩:=okWide_slice underlying22 (d 2 22 v2 rfl rfl);have D:=i;have E:=k;have F:=l;obtain⟨ad,K⟩:=i;obtain⟨ae,L⟩:=k;obtain⟨af,M⟩:=l;clear n s;simp only[List.append_nil] at b;obtain⟨R,Z,u⟩:=az1 K;obtain⟨S,s1,y⟩:=az1 L;obtain⟨T,s2,z⟩:=az1 M;have O:∀x∈U,x.block<W.1.size:=fun x a=>by simpa using b.lt x (by simp[a])
 have P:∀x∈V,x.block<W.1.size:=fun x a=>by simpa using b.lt x (by simp[a])
 have Q:∀x∈Y,x.block<W.1.size:=fun x a=>by simpa using b.lt x (by simp[a])
 refine(cyX R S T _ _ _ W (az0 G) Z s1 s2 u y z).mono fun e W' ⟨J,c⟩=> ?_;subst J;refine⟨_,rfl,az2 b rfl (by kernel_rfl) underlying4 rfl (fun sp g=> ?_) c⟩;have f:Tryz.prog.readableRec 22=true:=by kernel_rfl
 have hn:22<Tryz.prog.types.size:=by decide+kernel
 have o:=trodAll_mk3 (Trod_stays LZ f hn D (fun x a=>c.same (O x a)) (fun x a=>g x (by simp[a])))
  (Trod_stays LZ f hn E (fun x a=>c.same (P x a)) (fun x a=>g x (by simp[a])))
  (Trod_stays LZ f hn F (fun x a=>c.same (Q x a)) (fun x a=>g x (by simp[a])))
 rw[<-List.append_assoc] at o;exact o
theorem elim_holds:Rows.UnivarEliminationSaid:=
 OpenClaim.holds_of_wide 4 Tryz.f4 rfl rfl rfl rfl rfl rfl rfl ⟨rfl,rfl,rfl,rfl,rfl⟩ rfl rfl rfl rfl rfl (by kernel_rfl) func4 (by kernel_rfl)
  (of_decide_eq_true (by kernel_rfl)) (by unfold Func.isWrapper;first|(rw[if_pos (by decide+kernel)];kernel_rfl)|(rw[if_neg (by decide+kernel)];exact⟨rfl,rfl⟩))
  (fun b c H a _=>elim_lifted b c H a)
theorem elim_card:Rows.UnivarEliminationCardSaid:=
 Claim7.holds_tied_plain_at .later [] [.data,.data,.data] true Rows.univarEliminationCard.stood.harness false
  elim_holds (fun _ h=>by cases h) (by kernel_rfl) (fun _ h=>by cases h) univarElimination_row_tie rfl ⟨rfl,rfl⟩ (by kernel_rfl) rfl
  (fun f b d e=>by
   obtain rfl:f=4:=Option.some.inj ((show Tryz.prog.funcNamed "sosopt/sosoptlaw08.UnivarElimination" =some 4 by kernel_rfl).symm.trans d) |>.symm;obtain rfl:b=Tryz.f4:=(Option.some.inj (Tryz.func4.symm.trans e)).symm
   exact⟨by kernel_rfl,fun j t a=>by
    rw[Tryz.params4] at a;have g:t∈[22,22,22]:=by simpa using Array.mem_of_getElem? a
    have c:([22,22,22].all fun u=> !Tryz.prog.wantsStandIn u)=true:=by kernel_rfl
    exact(show Tryz.prog.wantsStandIn t=false by simpa using List.all_eq_true.1 c t g)⟩)
  (by kernel_rfl)
#print axioms elim_card
end Go.Proofs.YtpgmdhonnpakeaaGreatDoor
