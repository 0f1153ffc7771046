/-
  sosoptlaw08.UnivarConvert: for every polynomial of package api, every list of texts and every two integers the call returns true and leaves its arguments as they were (the card 'UnivarConvertCardSaid'; the condition: the three listed tables of Go's library hold what the program's text lays in them).
-/
import Derived.Test.YtmiaanioldpfgaaGreatDoorCards
import Derived.Test.YtmiaanioldpfgaaGreatDoorTie
import Derived.Test.YtmiaanioldpfgaaGreatDoorX29
import Derived.SevenTiedAt
import Derived.ChangeMaps5
import Derived.Lib.SmallJoins
set_option linter.all false
set_option maxHeartbeats 8000000
set_option maxRecDepth 99999
namespace Go.Proofs.YtmiaanioldpfgaaGreatDoor
open Go.ChangeMaps Go.ChangeShapes Go.WideShapes Go.ChangeAt Go.WideMaps Go.WideElems Go.RowKit Go.Proofs.Tryz
theorem conv_lifted(os:Os)(ae:os.Started)(H:Type)(enc:TypeId×Value->H):
  ReturnsInHanded {} Tryz.checked os 3 .any (fun w args=>(Rows.univarConvertSpec.pre enc prog Tryz.f3 [] false w args∧laidMetH prog uX w)∧sizedMet enc prog Tryz.f3 (OpenSpec.ofChange Rows.univarConvertSpec) false w args)
   (Rows.univarConvertSpec.post enc prog Tryz.f3 false true false false):=by
 refine returnsInHanded_of_change_and (C:=Tryz.checked) (X:=fun w _=>laidMetH prog uX w) (fun _ _ _ R h=>h.of_heap R) own ae (by kernel_rfl) func3
  (ChangeSpec.witness_shaped (enc:=enc) (C:=Tryz.checked) (os:=os) (X:=fun w _=>laidMetH prog uX w) false (World.doorLaid prog 400 os) #[.agg #[.int .i64 0,.slice none 0 0],.slice none 0 0,.int .i64 0,.int .i64 0] 8 rfl (World.shaped_of_RefB (by kernel_rfl) (by kernel_rfl)) (by kernel_rfl) (by kernel_rfl) (by kernel_rfl) (ayX os _)) ?_
 intro W F args G gs af A y _ _ M _;have b:∀(j:Nat) t v,Tryz.f3.params[j]? =some t->args[j]? =some v->Value.okWide prog W .any F t v:=A;have c:=y;obtain⟨p,q,s,N,rfl,ah,ai⟩:=y;have r:DataW.TrodAll enc prog W 0 (fun _=>true) true Tryz.f3.params.toList args.toList G p:=s;rw[Tryz.params3] at r b;obtain⟨v0,v1,v2,v3,d0,d1,d2,d3,p0,p1,p2,p3,rfl,rfl,rfl,k,l,n,o⟩:=trodAll_four r;obtain⟨rfl,rfl⟩:=trodVars_none N;obtain⟨a1,l1,c1,rfl⟩:=okWide_slice underlying25 (b 1 25 v1 rfl rfl);have I:=k;have J:=l;have K:=n;have L:=o;obtain⟨u0,u1,y0,y1,m,rfl,rfl,rfl,t0,t1⟩:=Joins.open_agg2 underlying24 (by kernel_rfl) (by kernel_rfl) (b 0 24 v0 rfl rfl) k;obtain⟨pv,i, -,f⟩:=DataW.trod_int underlying3 t0;simp at i;subst i;simp only[Lit.wf,Bool.and_eq_true,decide_eq_true_eq] at f;obtain⟨ts,tv,tl,tx,te⟩:=gq7 t1;obtain⟨ag,Q⟩:=l;obtain⟨V,rfl,rfl,rfl,w2⟩:=open_int underlying3 (b 2 3 v2 rfl rfl) n;simp only[Lit.wf,Bool.and_eq_true,decide_eq_true_eq] at w2;obtain⟨Y,rfl,rfl,rfl,g⟩:=open_int underlying3 (b 3 3 v3 rfl rfl) o;simp only[Lit.wf,Bool.and_eq_true,decide_eq_true_eq] at g;clear s A;simp only[List.append_nil] at c;obtain⟨U,s1,E⟩:=az1 Q;have S:∀x∈y0.2++y1.2,x.block<W.1.size:=fun x a=>c.lt x (List.mem_append_left _ a);have T:∀x∈p1,x.block<W.1.size:=fun x a=>c.lt x (List.mem_append_right _ a);have O:=fzG pv ts U V Y _ _ W (az0 M) tv s1 tl tx te E ⟨f.1,f.2⟩ ⟨g.1,g.2⟩;refine O.mono fun e W' ⟨P,d⟩=> ?_;subst P;refine⟨_,rfl,az2 c rfl (by kernel_rfl) underlying4 rfl (fun sp z=> ?_) d⟩;have ac:Tryz.prog.readableRec 24=true:=by kernel_rfl
 have Z:24<Tryz.prog.types.size:=by decide+kernel
 have ad:Tryz.prog.readableRec 25=true:=by kernel_rfl
 have ab:25<Tryz.prog.types.size:=by decide+kernel
 have D:Tryz.prog.readableRec 3=true:=by kernel_rfl
 have B:3<Tryz.prog.types.size:=by decide+kernel
 have u:=trodAll_mk4 (Trod_stays LZ ac Z I (fun x a=>d.same (S x a)) (fun x a=>z x (List.mem_append_left _ a)))
  (Trod_stays LZ ad ab J (fun x a=>d.same (T x a)) (fun x a=>z x (List.mem_append_right _ a)))
  (Trod_stays LZ D B K (fun x a=>by cases a) (fun x a=>by cases a))
  (Trod_stays LZ D B L (fun x a=>by cases a) (fun x a=>by cases a))
 simp only[List.append_nil] at u;exact u
theorem conv_holds:Rows.UnivarConvertSaid:=
 OpenClaim.holds_of_wide 3 Tryz.f3 rfl rfl rfl rfl rfl rfl rfl ⟨rfl,rfl,rfl,rfl,rfl⟩ rfl rfl rfl rfl rfl (by kernel_rfl) func3 (by kernel_rfl)
  (of_decide_eq_true (by kernel_rfl)) (by unfold Func.isWrapper;first|(rw[if_pos (by decide+kernel)];kernel_rfl)|(rw[if_neg (by decide+kernel)];exact⟨rfl,rfl⟩))
  (fun b c H a _=>conv_lifted b c H a)
theorem conv_card:Rows.UnivarConvertCardSaid:=
 Claim7.holds_tied_plain_at .later [] [.data,.data,.data] true Rows.univarConvertCard.stood.harness false
  conv_holds (fun _ h=>by cases h) (by kernel_rfl) (fun _ h=>by cases h) univarConvert_row_tie rfl ⟨rfl,rfl⟩ (by kernel_rfl) rfl
  (fun f b d e=>by
   obtain rfl:f=3:=Option.some.inj ((show Tryz.prog.funcNamed "sosopt/sosoptlaw08.UnivarConvert" =some 3 by kernel_rfl).symm.trans d) |>.symm;obtain rfl:b=Tryz.f3:=(Option.some.inj (Tryz.func3.symm.trans e)).symm
   exact⟨by kernel_rfl,fun j t a=>by
    rw[Tryz.params3] at a;have g:t∈[24,25,3,3]:=by simpa using Array.mem_of_getElem? a
    have c:([24,25,3,3].all fun u=> !Tryz.prog.wantsStandIn u)=true:=by kernel_rfl
    exact(show Tryz.prog.wantsStandIn t=false by simpa using List.all_eq_true.1 c t g)⟩)
  (by kernel_rfl)
#print axioms conv_card
end Go.Proofs.YtmiaanioldpfgaaGreatDoor
