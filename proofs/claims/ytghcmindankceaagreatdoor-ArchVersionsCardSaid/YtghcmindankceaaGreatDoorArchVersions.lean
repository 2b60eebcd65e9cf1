/- The law ArchVersions holds: whatever the options and the log. -/
import Derived.Test.YtghcmindankceaaGreatDoorRows
import Derived.Test.YtghcmindankceaaGreatDoorCards
import Derived.Test.YtghcmindankceaaGreatDoorTie
import Derived.Test.YtghcmindankceaaGreatDoorM44
import Derived.Test.YtghcmindankceaaGreatDoorM47
import Derived.Test.YtghcmindankceaaGreatDoorM48
set_option linter.unusedVariables false
set_option linter.unusedSectionVars false
set_option linter.unusedSimpArgs false
set_option maxHeartbeats 8000000
namespace Go.Proofs.YtghcmindankceaaGreatDoor.archVersionsDone
open Go.RowKit Go.Fk Go.ChangeShapes Go.WideShapes Go.ChangeAt
open Go.ChangeMaps (open_string shut_string)
theorem own:ownKnob Tryz.prog.godebug=none:=by kernel_rfl
theorem laidOut:laidOutB Tryz.prog=true:=by kernel_rfl
def wit:Array Value:=#[.slice none 0 0]
theorem laid_met(os:Os):laidMetH Tryz.prog Rows.archVersionsRow.laid ((laidWorld os wit).forCall (fun _ _=>0) ⟨#[],wit,[]⟩).memory:=
 laidMet_of_run' 8 (by kernel_rfl) (by kernel_rfl)
theorem tabs{W:World}(h:laidMetH Tryz.prog Rows.archVersionsRow.laid W):Crc W:=by
 have h0:∃ ps,DataW.LaidVars Tryz.prog W Rows.archVersionsRow.laid ps:=⟨_,h.choose_spec.1⟩
 obtain⟨_,h0⟩:=h0
 exact crc_of (rest:=[]) h0
set_option maxRecDepth 100000
theorem lifted (os : Os) (started : os.Started) (H : Type) (enc : TypeId × Value → H) (F : Stop.Interp) :
    ReturnsInHanded {} Tryz.checked os 4 .any ((OpenSpec.ofChange Rows.archVersionsSpec).preRow enc Tryz.prog Tryz.f4 Rows.archVersionsRow.domain false Rows.archVersionsRow.laid) (((OpenSpec.ofChange Rows.archVersionsSpec).at F).post enc Tryz.prog Tryz.f4 false true false false):=by
  obtain⟨places,hx⟩:∃ places,DataW.whole enc Tryz.prog ((laidWorld os wit).forCall (fun _ _=>0) ⟨#[],wit,[]⟩).memory Tryz.f4.params.toList Rows.archVersionsSpec.vars false wit.toList 8=some ([.nil],[],places):=⟨[],by kernel_rfl⟩
  refine returnsInHanded_of_row (C:=Tryz.checked) (s:=OpenSpec.ofChange Rows.archVersionsSpec) own started (by kernel_rfl) Tryz.func4
    (witness_row_at (enc := enc) (C := Tryz.checked) false (laidWorld os wit) wit rfl (by kernel_rfl) (by kernel_rfl) (by kernel_rfl)
      (OpenSpec.preRow_of_cond 8 hx (by kernel_rfl) (fun k hk => by cases hk) (by kernel_rfl) (laid_met os))) ?_
  intro W base args ds gs before hval0 hW _ _ _ hL _ _
  have ht:=tabs hL
  have hval:∀ (j:Nat) t v,Tryz.f4.params[j]?=some t->args[j]?=some v->Value.okWide Tryz.prog W .any base t v:=hval0
  have hW':=hW
  obtain⟨p,q,hA0,hV,rfl,hfz,hnd⟩:=hW
  have hA:DataW.TrodAll enc Tryz.prog W 0 (fun _=>true) true Tryz.f4.params.toList args.toList ds p:=hA0
  rw [Tryz.params4]at hA hval
  obtain⟨v0,vs0,d0,ds0,p0,q0,hargs,rfl,rfl,h0,r0⟩:=trodAll_cons hA
  obtain⟨rfl,rfl,rfl⟩:=trodAll_nil r0
  obtain rfl:args=#[v0]:=by cases args;simp_all
  obtain⟨rfl,rfl⟩:=trodVars_none hV
  obtain⟨a0,len0,cap0,rfl⟩:=okWide_slice Tryz.underlying22 (hval 0 22 v0 rfl rfl)
  have k0:=h0
  have lt0:∀ x∈p0,x.block<W.heap.size:=by obtain⟨m,hm⟩:=k0;exact DataW.trod_lt m _ _ _ hm
  obtain⟨l0,hs0⟩:∃ l,See W eB (.slice a0 len0 cap0) l:=by obtain⟨fuel,hf⟩:=h0;exact see_bytes eB rfl Tryz.underlying22 Tryz.underlying5 (by kernel_rfl) hf rfl
  clear hA0 hval0
  refine(ArchVersions_any _ l0 W ht hs0).mono fun e W' ⟨he,bel⟩=>?_
  subst he
  have bel':Below W.heap.size W W':=bel
  exact⟨_,rfl,_,_,_,[],_,[],hW',trodAll_mk1 (shut_bool Tryz.underlying4 _),(trodAll_cons_mk (Below.trod laidOut (by kernel_rfl) (of_decide_eq_true (by kernel_rfl)) k0 bel' lt0) trodAll_mk0),rfl,bel'.frame _,fun h=>by cases h⟩
set_option maxRecDepth 512
theorem said:Rows.ArchVersionsSaid:=
 OpenClaim.holds_of_cond 4 Tryz.f4 rfl rfl rfl rfl rfl rfl rfl ⟨rfl, rfl, rfl, rfl, rfl⟩ rfl rfl rfl rfl rfl (by kernel_rfl) Tryz.func4 (by unfold joinedFacts; simp only [Bool.and_eq_true]; (repeat' apply And.intro) <;> (as_aux_lemma => kernel_rfl))
  (of_decide_eq_true (by kernel_rfl)) (by unfold Func.isWrapper;first | (rw [if_pos (by decide +kernel)];kernel_rfl) | (rw [if_neg (by decide +kernel)];exact⟨rfl,rfl⟩))
  (fun os started H enc _ F=>by rw [OpenClaim.pre_eq_preRow];exact lifted os started H enc F)
theorem plain(f:FuncId)(fn:Func)(hf:Tryz.pinned.checked.prog.funcNamed "firkin/firkinlaw25.ArchVersions"=some f)(hfn:Tryz.pinned.checked.prog.funcs[f]?=some fn) :
  false=Tryz.pinned.checked.prog.looks []/\∀ (j:Nat) t,fn.params[j]?=some t->Tryz.pinned.checked.prog.wantsStandIn t=false:=by
 obtain rfl:f=4:=Option.some.inj ((show Tryz.prog.funcNamed "firkin/firkinlaw25.ArchVersions"=some 4 by kernel_rfl).symm.trans hf) |>.symm
 obtain rfl:fn=Tryz.f4:=(Option.some.inj (Tryz.func4.symm.trans hfn)).symm
 refine⟨by kernel_rfl,fun j t ht=>?_⟩
 rw [Tryz.params4]at ht
 obtain rfl:t=22:=by simpa using Array.mem_of_getElem? ht
 exact(show Tryz.prog.wantsStandIn 22=false by kernel_rfl)
theorem proved:Rows.ArchVersionsCardSaid:=
 Claim7.holds_tied_plain_at .later [] _ _ _ _ said (fun _ h=>by cases h) (by kernel_rfl) (fun _ h=>by cases h) archVersions_row_tie rfl ⟨rfl,rfl⟩ (by kernel_rfl) rfl plain (by kernel_rfl)
end Go.Proofs.YtghcmindankceaaGreatDoor.archVersionsDone
