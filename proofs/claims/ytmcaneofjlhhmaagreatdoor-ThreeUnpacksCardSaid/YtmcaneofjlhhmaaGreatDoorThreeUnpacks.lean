/- The law ThreeUnpacks holds: whatever the bytes. -/
import Derived.Test.YtmcaneofjlhhmaaGreatDoorCards
import Derived.Test.YtmcaneofjlhhmaaGreatDoorTie
import Derived.Test.YtmcaneofjlhhmaaGreatDoorM46
import Derived.Test.YtmcaneofjlhhmaaGreatDoorM49
import Derived.Test.YtmcaneofjlhhmaaGreatDoorM50
set_option linter.all false
set_option maxHeartbeats 8000000
set_option maxRecDepth 100000
namespace Go.Proofs.YtmcaneofjlhhmaaGreatDoor.threeUnpacksDone
open Go.RowKit Go.Fk Go.ChangeShapes Go.WideShapes Go.ChangeAt
open Go.ChangeMaps (open_string shut_string)
theorem own:ownKnob Tryz.prog.godebug=none:=by kernel_rfl
theorem laidOut:laidOutB Tryz.prog=true:=by kernel_rfl
def wit:Array Value:=#[.slice none 0 0]
theorem laid_met(os:Os):laidMetH Tryz.prog Rows.threeUnpacksRow.laid ((xO os wit).forCall (λ_ _=>0) ⟨#[],wit,[]⟩).memory:=
 laidMet_of_run' 8 (by kernel_rfl) (by kernel_rfl)
theorem tabs{W:World}(h:laidMetH Tryz.prog Rows.threeUnpacksRow.laid W):dm W:=by
 have d:∃e,DataW.LaidVars Tryz.prog W Rows.threeUnpacksRow.laid e:=⟨_,h.choose_spec.1⟩;obtain⟨_,d⟩:=d;exact MT (rest:=[]) d
theorem lifted(os:Os)(O:os.Started)(H:Type)(enc:TypeId × Value->H)(F:Stop.Interp):ReturnsInHanded {} Tryz.checked os 3 .any ((OpenSpec.ofChange Rows.threeUnpacksSpec).preRow enc Tryz.prog Tryz.f3 Rows.threeUnpacksRow.domain false Rows.threeUnpacksRow.laid) (((OpenSpec.ofChange Rows.threeUnpacksSpec).at F).post enc Tryz.prog Tryz.f3 false true false false):=by
 obtain⟨d,Q⟩:∃d,DataW.whole enc Tryz.prog ((xO os wit).forCall (λ_ _=>0) ⟨#[],wit,[]⟩).memory Tryz.f3.params.toList Rows.threeUnpacksSpec.vars false wit.toList 8=some ([.nil],[],d):=⟨[],by kernel_rfl⟩
 refine returnsInHanded_of_row (C:=Tryz.checked) (s:=OpenSpec.ofChange Rows.threeUnpacksSpec) own O (by kernel_rfl) Tryz.func3
  (witness_row_at (enc := enc) (C := Tryz.checked) false (xO os wit) wit rfl (by kernel_rfl) (by kernel_rfl) (by kernel_rfl)
    (OpenSpec.preRow_of_cond 8 Q (by kernel_rfl) (λk R => by cases R) (by kernel_rfl) (laid_met os))) ?_
 intro W base args U gs a3 o z _ _ _ V _ _;have X:=tabs V;have D:∀(j:Nat) t v,Tryz.f3.params[j]?=some t->args[j]?=some v->Value.okWide Tryz.prog W .any base t v:=o;have Y:=z;obtain⟨p,q,G,Z,rfl,a4,a5⟩:=z;have I:DataW.TrodAll enc Tryz.prog W 0 (λ_=>true) true Tryz.f3.params.toList args.toList U p:=G;rw [Tryz.params3]at I D;obtain⟨J,a6,d0,a8,p0,q0,aC,rfl,rfl,K,r0⟩:=trodAll_cons I;obtain⟨rfl,rfl,rfl⟩:=trodAll_nil r0;obtain rfl:args=#[J]:=by cases args;simp_all
 obtain⟨rfl,rfl⟩:=trodVars_none Z;obtain⟨a0,ah,ai,rfl⟩:=okWide_slice Tryz.underlying22 (D 0 22 J rfl rfl);have L:=K;have aj:∀x∈p0,x.block<W.heap.size:=by obtain⟨m,hm⟩:=L;exact DataW.trod_lt m _ _ _ hm
 obtain⟨l0,am⟩:∃l,ao W eB (.slice a0 ah ai) l:=by obtain⟨ba,hf⟩:=K;exact Il eB rfl Tryz.underlying22 Tryz.underlying5 (by kernel_rfl) hf rfl
 clear G o;refine(O8 _ l0 W X am).mono λe W' ⟨he,a1⟩=>?_;subst he;have M:Below W.heap.size W W':=a1;exact⟨_,rfl,_,_,_,[],_,[],Y,trodAll_mk1 (shut_bool Tryz.underlying4 _),(trodAll_cons_mk (Below.trod laidOut (by kernel_rfl) (mw (by kernel_rfl)) L M aj) trodAll_mk0),rfl,M.frame _,λh=>by cases h⟩
theorem said:Rows.ThreeUnpacksSaid:=
 OpenClaim.holds_of_cond 3 Tryz.f3 rfl rfl rfl rfl rfl rfl rfl ⟨rfl, rfl, rfl, rfl, rfl⟩ rfl rfl rfl rfl rfl (by kernel_rfl) Tryz.func3 (by unfold joinedFacts; simp only [lS]; (repeat' apply And.intro) <;> (as_aux_lemma => kernel_rfl))
  (mw (by kernel_rfl)) (by unfold Func.isWrapper;first | (rw [an (by decide +kernel)];kernel_rfl) | (rw [ae (by decide +kernel)];exact⟨rfl,rfl⟩))
  (λos d H enc _ F=>by rw [OpenClaim.pre_eq_preRow];exact lifted os d H enc F)
theorem plain(f:FuncId)(d:Func)(h:Tryz.pinned.checked.prog.funcNamed "firkin/firkinlaw24.ThreeUnpacks"=some f)(m:Tryz.pinned.checked.prog.funcs[f]?=some d):false=Tryz.pinned.checked.prog.looks []/\∀(j:Nat) t,d.params[j]?=some t->Tryz.pinned.checked.prog.wantsStandIn t=false:=by
 obtain rfl:f=3:=lM ((show Tryz.prog.funcNamed "firkin/firkinlaw24.ThreeUnpacks"=some 3 by kernel_rfl).symm.trans h) |>.symm;obtain rfl:d=Tryz.f3:=(lM (Tryz.func3.symm.trans m)).symm;refine⟨by kernel_rfl,λj t e=>?_⟩;rw [Tryz.params3]at e;obtain rfl:t=22:=by simpa using Array.mem_of_getElem? e
 exact(show Tryz.prog.wantsStandIn 22=false by kernel_rfl)
theorem proved:Rows.ThreeUnpacksCardSaid:=
 Claim7.holds_tied_plain_at .later [] _ _ _ _ said (λ_ h=>by cases h) (by kernel_rfl) (λ_ h=>by cases h) threeUnpacks_row_tie rfl ⟨rfl,rfl⟩ (by kernel_rfl) rfl plain (by kernel_rfl)
end Go.Proofs.YtmcaneofjlhhmaaGreatDoor.threeUnpacksDone
