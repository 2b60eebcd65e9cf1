/- The law ArchOne holds: whatever the options and the log. -/
import Derived.Test.YtdagmoonnbnceaaGreatDoorRows
import Derived.Test.YtdagmoonnbnceaaGreatDoorCards
import Derived.Test.YtdagmoonnbnceaaGreatDoorTie
import Derived.Test.YtdagmoonnbnceaaGreatDoorM43
import Derived.Test.YtdagmoonnbnceaaGreatDoorM48
import Derived.Test.YtdagmoonnbnceaaGreatDoorM49
set_option linter.unusedVariables false
set_option linter.unusedSectionVars false
set_option linter.unusedSimpArgs false
set_option maxHeartbeats 8000000
set_option maxRecDepth 100000
namespace Go.Proofs.YtdagmoonnbnceaaGreatDoor.archOneDone
open Go.RowKit Go.Fk Go.ChangeShapes Go.WideShapes Go.ChangeAt
open Go.ChangeMaps (open_string shut_string)
theorem own:ownKnob Tryz.prog.godebug=none:=by kernel_rfl
theorem laidOut:laidOutB Tryz.prog=true:=by kernel_rfl
def wit:Array Value:=#[.int .i64 0,.int .i64 0,.agg #[.int .i64 0,.bool false,.int .i64 0,.int .i64 0,.int .i64 0,.int .i64 0],.agg #[.int .i64 0,.bool false,.int .i64 0,.int .i64 0,.int .i64 0,.int .i64 0],.slice none 0 0,.slice none 0 0]
theorem laid_met(os:Os):laidMetH Tryz.prog Rows.archOneRow.laid ((laidWorld os wit).forCall (fun _ _=>0) ⟨#[],wit,[]⟩).memory:=
 laidMet_of_run' 8 (by kernel_rfl) (by kernel_rfl)
theorem tabs{W:World}(h:laidMetH Tryz.prog Rows.archOneRow.laid W):Crc W:=by
 have h0:∃ ps,DataW.LaidVars Tryz.prog W Rows.archOneRow.laid ps:=⟨_,h.choose_spec.1⟩
 obtain⟨_,h0⟩:=h0
 exact crc_of (rest:=[]) h0
theorem lifted (os : Os) (started : os.Started) (H : Type) (enc : TypeId × Value → H) (F : Stop.Interp) :
    ReturnsInHanded {} Tryz.checked os 3 .any ((OpenSpec.ofChange Rows.archOneSpec).preRow enc Tryz.prog Tryz.f3 Rows.archOneRow.domain false Rows.archOneRow.laid) (((OpenSpec.ofChange Rows.archOneSpec).at F).post enc Tryz.prog Tryz.f3 false true false false):=by
  obtain⟨places,hx⟩:∃ places,DataW.whole enc Tryz.prog ((laidWorld os wit).forCall (fun _ _=>0) ⟨#[],wit,[]⟩).memory Tryz.f3.params.toList Rows.archOneSpec.vars false wit.toList 8=some ([.lit (.int .i64 0),.lit (.int .i64 0),.agg [.lit (.int .i64 0),.lit (.bool false),.lit (.int .i64 0),.lit (.int .i64 0),.lit (.int .i64 0),.lit (.int .i64 0)],.agg [.lit (.int .i64 0),.lit (.bool false),.lit (.int .i64 0),.lit (.int .i64 0),.lit (.int .i64 0),.lit (.int .i64 0)],.nil,.nil],[],places):=⟨[],by kernel_rfl⟩
  refine returnsInHanded_of_row (C:=Tryz.checked) (s:=OpenSpec.ofChange Rows.archOneSpec) own started (by kernel_rfl) Tryz.func3
    (witness_row_at (enc := enc) (C := Tryz.checked) false (laidWorld os wit) wit rfl (by kernel_rfl) (by kernel_rfl) (by kernel_rfl)
      (OpenSpec.preRow_of_cond 8 hx (by kernel_rfl) (fun k hk => by cases hk) (by kernel_rfl) (laid_met os))) ?_
  intro W base args ds gs before hval0 hW _ _ _ hL _ _
  have ht:=tabs hL
  have hval:∀ (j:Nat) t v,Tryz.f3.params[j]? = some t->args[j]? = some v->Value.okWide Tryz.prog W .any base t v:=hval0
  have hW':=hW
  obtain⟨p,q,hA0,hV,rfl,hfz,hnd⟩:=hW
  have hA:DataW.TrodAll enc Tryz.prog W 0 (fun _=>true) true Tryz.f3.params.toList args.toList ds p:=hA0
  rw [Tryz.params3]at hA hval
  obtain⟨v0,vs0,d0,ds0,p0,q0,hargs,rfl,rfl,h0,r0⟩:=trodAll_cons hA
  obtain⟨v1,vs1,d1,ds1,p1,q1,rfl,rfl,rfl,h1,r1⟩:=trodAll_cons r0
  obtain⟨v2,vs2,d2,ds2,p2,q2,rfl,rfl,rfl,h2,r2⟩:=trodAll_cons r1
  obtain⟨v3,vs3,d3,ds3,p3,q3,rfl,rfl,rfl,h3,r3⟩:=trodAll_cons r2
  obtain⟨v4,vs4,d4,ds4,p4,q4,rfl,rfl,rfl,h4,r4⟩:=trodAll_cons r3
  obtain⟨v5,vs5,d5,ds5,p5,q5,rfl,rfl,rfl,h5,r5⟩:=trodAll_cons r4
  obtain⟨rfl,rfl,rfl⟩:=trodAll_nil r5
  obtain rfl:args=#[v0,v1,v2,v3,v4,v5]:=by cases args;simp_all
  obtain⟨rfl,rfl⟩:=trodVars_none hV
  obtain⟨a0,rfl,rfl,rfl,w0⟩:=open_int Tryz.underlying3 (hval 0 3 v0 rfl rfl) h0
  obtain⟨a1,rfl,rfl,rfl,w1⟩:=open_int Tryz.underlying3 (hval 1 3 v1 rfl rfl) h1
  obtain⟨o2,rfl⟩:∃ o:Opt,v2=optV o:=by obtain⟨fuel,hf⟩:=h2;exact opt_of (hval 2 23 v2 rfl rfl) hf
  have k2:=h2
  have lt2:∀ x∈p2,x.block<W.heap.size:=by obtain⟨m,hm⟩:=k2;exact DataW.trod_lt m _ _ _ hm
  obtain⟨o3,rfl⟩:∃ o:Opt,v3=optV o:=by obtain⟨fuel,hf⟩:=h3;exact opt_of (hval 3 23 v3 rfl rfl) hf
  have k3:=h3
  have lt3:∀ x∈p3,x.block<W.heap.size:=by obtain⟨m,hm⟩:=k3;exact DataW.trod_lt m _ _ _ hm
  obtain⟨a4,len4,cap4,rfl⟩:=okWide_slice Tryz.underlying24 (hval 4 24 v4 rfl rfl)
  have k4:=h4
  have lt4:∀ x∈p4,x.block<W.heap.size:=by obtain⟨m,hm⟩:=k4;exact DataW.trod_lt m _ _ _ hm
  obtain⟨l4,hs4⟩:∃ l,See W eR (.slice a4 len4 cap4) l:=by obtain⟨fuel,hf⟩:=h4;exact see_records hf rfl
  obtain⟨a5,len5,cap5,rfl⟩:=okWide_slice Tryz.underlying24 (hval 5 24 v5 rfl rfl)
  have k5:=h5
  have lt5:∀ x∈p5,x.block<W.heap.size:=by obtain⟨m,hm⟩:=k5;exact DataW.trod_lt m _ _ _ hm
  obtain⟨l5,hs5⟩:∃ l,See W eR (.slice a5 len5 cap5) l:=by obtain⟨fuel,hf⟩:=h5;exact see_records hf rfl
  clear hA0 hval0
  refine(ArchOne_any a0 a1 o2 o3 _ _ l4 l5 W ht hs4 hs5).mono fun e W' ⟨he,bel⟩=>?_
  subst he
  have bel':Below W.heap.size W W':=bel
  exact⟨_,rfl,_,_,_,[],_,[],hW',trodAll_mk1 (shut_bool Tryz.underlying4 _),(trodAll_cons_mk (shut_int Tryz.underlying3 w0) (trodAll_cons_mk (shut_int Tryz.underlying3 w1) (trodAll_cons_mk (Below.trod laidOut (by kernel_rfl) (of_decide_eq_true (by kernel_rfl)) k2 bel' lt2) (trodAll_cons_mk (Below.trod laidOut (by kernel_rfl) (of_decide_eq_true (by kernel_rfl)) k3 bel' lt3) (trodAll_cons_mk (Below.trod laidOut (by kernel_rfl) (of_decide_eq_true (by kernel_rfl)) k4 bel' lt4) (trodAll_cons_mk (Below.trod laidOut (by kernel_rfl) (of_decide_eq_true (by kernel_rfl)) k5 bel' lt5) trodAll_mk0)))))),rfl,bel'.frame _,fun h=>by cases h⟩
theorem said:Rows.ArchOneSaid:=
 OpenClaim.holds_of_cond 3 Tryz.f3 rfl rfl rfl rfl rfl rfl rfl ⟨rfl, rfl, rfl, rfl, rfl⟩ rfl rfl rfl rfl rfl (by kernel_rfl) Tryz.func3 (by unfold joinedFacts; simp only [Bool.and_eq_true]; (repeat' apply And.intro) <;> (as_aux_lemma => kernel_rfl))
  (of_decide_eq_true (by kernel_rfl)) (by unfold Func.isWrapper;first | (rw [if_pos (by decide +kernel)];kernel_rfl) | (rw [if_neg (by decide +kernel)];exact⟨rfl,rfl⟩))
  (fun os started H enc _ F=>by rw [OpenClaim.pre_eq_preRow];exact lifted os started H enc F)
theorem plain(f:FuncId)(fn:Func)(hf:Tryz.pinned.checked.prog.funcNamed "firkin/firkinlaw25.ArchOne"=some f)(hfn:Tryz.pinned.checked.prog.funcs[f]? = some fn) :
  false=Tryz.pinned.checked.prog.looks []/\∀ (j:Nat) t,fn.params[j]? = some t->Tryz.pinned.checked.prog.wantsStandIn t=false:=by
 obtain rfl:f=3:=Option.some.inj ((show Tryz.prog.funcNamed "firkin/firkinlaw25.ArchOne"=some 3 by kernel_rfl).symm.trans hf) |>.symm
 obtain rfl:fn=Tryz.f3:=(Option.some.inj (Tryz.func3.symm.trans hfn)).symm
 refine⟨by kernel_rfl,fun j t ht=>?_⟩
 rw [Tryz.params3]at ht
 have:t=3\/t=3\/t=23\/t=23\/t=24\/t=24:=by simpa using Array.mem_of_getElem? ht
 rcases this with rfl | rfl | rfl | rfl | rfl | rfl
 · exact(show Tryz.prog.wantsStandIn 3=false by kernel_rfl)
 · exact(show Tryz.prog.wantsStandIn 3=false by kernel_rfl)
 · exact(show Tryz.prog.wantsStandIn 23=false by kernel_rfl)
 · exact(show Tryz.prog.wantsStandIn 23=false by kernel_rfl)
 · exact(show Tryz.prog.wantsStandIn 24=false by kernel_rfl)
 · exact(show Tryz.prog.wantsStandIn 24=false by kernel_rfl)
theorem proved:Rows.ArchOneCardSaid:=
 Claim7.holds_tied_plain_at .later [] _ _ _ _ said (fun _ h=>by cases h) (by kernel_rfl) (fun _ h=>by cases h) archOne_row_tie rfl ⟨rfl,rfl⟩ (by kernel_rfl) rfl plain (by kernel_rfl)
end Go.Proofs.YtdagmoonnbnceaaGreatDoor.archOneDone
