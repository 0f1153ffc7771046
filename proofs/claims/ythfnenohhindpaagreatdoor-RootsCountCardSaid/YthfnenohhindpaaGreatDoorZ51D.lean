/-
  sosoptlaw09.RootsCount: for every list of texts and every two texts the call returns true and leaves its arguments as they were (the card 'RootsCountCardSaid'; the condition: the three listed tables of Go's library hold what the program's text lays in them).
-/
import Derived.Test.YthfnenohhindpaaGreatDoorCards
import Derived.Test.YthfnenohhindpaaGreatDoorTie
import Derived.Test.YthfnenohhindpaaGreatDoorD49
import Derived.Test.YthfnenohhindpaaGreatDoorC47
import Derived.SevenTiedAt
import Derived.ChangeMaps5
set_option linter.all false
set_option maxHeartbeats 8000000
set_option maxRecDepth 100000
namespace Go.Proofs.YthfnenohhindpaaGreatDoor
open Go.ChangeMaps Go.ChangeShapes Go.WideShapes Go.ChangeAt Go.WideMaps Go.WideElems Go.RowKit
theorem cntl_lifted (os:Os) (U:os.Started) (H:Type) (enc:TypeId×Value->H):
  ReturnsInHanded {} Tryz.checked os 5 .any (fun w args=>(Rows.rootsCountSpec.pre enc Tryz.prog Tryz.f5 [] false w args∧laidMetH Tryz.prog rI w)∧sizedMet enc Tryz.prog Tryz.f5 (OpenSpec.ofChange Rows.rootsCountSpec) false w args)
   (Rows.rootsCountSpec.post enc Tryz.prog Tryz.f5 false true false false):=by
 refine returnsInHanded_of_change_and (C:=Tryz.checked) (X:=fun w _=>laidMetH Tryz.prog rI w) (fun _ _ _ N h=>h.of_heap N) own U (by kernel_rfl) Tryz.func5
  (ChangeSpec.witness_shaped (enc:=enc) (C:=Tryz.checked) (os:=os) (X:=fun w _=>laidMetH Tryz.prog rI w) false (World.doorLaid Tryz.prog 400 os) #[.slice none 0 0,.string ⟨#[]⟩,.string ⟨#[]⟩] 8 rfl (World.shaped_of_RefB (by kernel_rfl) (by kernel_rfl)) (by kernel_rfl) (by kernel_rfl) (by kernel_rfl) (WK os _)) ?_
 intro W D args E gs ab A m _ _ J _;have b:∀(j:Nat) t v,Tryz.f5.params[j]? =some t->args[j]? =some v->Value.okWide Tryz.prog W .any D t v:=A;have c:=m;obtain⟨p,q,k,K,rfl,ad,ae⟩:=m;have i:DataW.TrodAll enc Tryz.prog W 0 (fun _=>true) true Tryz.f5.params.toList args.toList E p:=k;rw[Tryz.params5] at i b;obtain⟨V,Y,Z,d0,d1,d2,S,p1,p2,rfl,rfl,rfl,d,f,g⟩:=trodAll_three i;obtain⟨rfl,rfl⟩:=trodVars_none K;obtain⟨a0,l0,c0,rfl⟩:=okWide_slice Tryz.underlying22 (b 0 22 V rfl rfl);have F:=d;have G:=f;have I:=g;obtain⟨ac,M⟩:=d;obtain⟨s,rfl,rfl,rfl,ws⟩:=open_string Tryz.underlying9 (b 1 9 Y rfl rfl) f;obtain⟨t,rfl,rfl,rfl,wt⟩:=open_string Tryz.underlying9 (b 2 9 Z rfl rfl) g;clear k A;simp only[List.append_nil] at c;obtain⟨R,T,B⟩:=WO M;have O:∀x∈S,x.block<W.heap.size:=fun x a=>by simpa using c.lt x (by simpa using a)
 have z:∀s:ByteArray,s.size<=maxLen->s.data.toList.length<=9223372036854775807:=fun s h=>by unfold maxLen at h;simpa using h
 have y:∀s:ByteArray,(⟨s.data.toList.toArray⟩:ByteArray)=s:=fun s=>by cases s;simp
 have o:=H5 R s.data.toList t.data.toList _ W (WN J) T B (z s ws) (z t wt);rw[y,y] at o;refine o.mono fun e W' ⟨L,n⟩=> ?_;subst L;refine⟨_,rfl,WP c rfl (by kernel_rfl) Tryz.underlying4 rfl (fun sp Q=> ?_) n⟩;have P:Tryz.prog.readableRec 22=true:=by kernel_rfl
 have hn:22<Tryz.prog.types.size:=by decide+kernel
 have u:Tryz.prog.readableRec 9=true:=by kernel_rfl
 have r:9<Tryz.prog.types.size:=by decide+kernel
 have l:=trodAll_mk3 (Trod_stays zI P hn F (fun x a=>n.same (O x a)) (fun x a=>Q x (by simp[a])))
  (Trod_stays zI u r G (fun x a=>by cases a) (fun x a=>by cases a))
  (Trod_stays zI u r I (fun x a=>by cases a) (fun x a=>by cases a))
 simp only[List.append_nil] at l;exact l
theorem cntl_holds:Rows.RootsCountSaid:=
 OpenClaim.holds_of_wide 5 Tryz.f5 rfl rfl rfl rfl rfl rfl rfl ⟨rfl,rfl,rfl,rfl,rfl⟩ rfl rfl rfl rfl rfl (by kernel_rfl) Tryz.func5 (by kernel_rfl)
  (of_decide_eq_true (by kernel_rfl)) (by unfold Func.isWrapper;first|(rw[if_pos (by decide+kernel)];kernel_rfl)|(rw[if_neg (by decide+kernel)];exact⟨rfl,rfl⟩))
  (fun b c H a _=>cntl_lifted b c H a)
theorem cntl_card:Rows.RootsCountCardSaid:=
 Claim7.holds_tied_plain_at .later [] [.data,.data,.data] true Rows.rootsCountCard.stood.harness false
  cntl_holds (fun _ h=>by cases h) (by kernel_rfl) (fun _ h=>by cases h) rootsCount_row_tie rfl ⟨rfl,rfl⟩ (by kernel_rfl) rfl
  (fun f b d e=>by
   obtain rfl:f=5:=Option.some.inj ((show Tryz.prog.funcNamed "sosopt/sosoptlaw09.RootsCount" =some 5 by kernel_rfl).symm.trans d) |>.symm;obtain rfl:b=Tryz.f5:=(Option.some.inj (Tryz.func5.symm.trans e)).symm
   exact⟨by kernel_rfl,fun j t a=>by
    rw[Tryz.params5] at a;have g:t∈[22,9,9]:=by simpa using Array.mem_of_getElem? a
    have c:([22,9,9].all fun u=> !Tryz.prog.wantsStandIn u)=true:=by kernel_rfl
    exact(show Tryz.prog.wantsStandIn t=false by simpa using List.all_eq_true.1 c t g)⟩)
  (by kernel_rfl)
#print axioms cntl_card
end Go.Proofs.YthfnenohhindpaaGreatDoor
