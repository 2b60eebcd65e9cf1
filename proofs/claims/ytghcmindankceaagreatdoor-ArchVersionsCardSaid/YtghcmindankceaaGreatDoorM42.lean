/- Parts of the proof of ArchVersions: Hd1. -/
import Derived.Test.YtghcmindankceaaGreatDoorM12
import Derived.Test.YtghcmindankceaaGreatDoorM22
set_option linter.unusedVariables false
set_option linter.unusedSectionVars false
set_option linter.unusedSimpArgs false
set_option maxHeartbeats 8000000
namespace Go.Proofs.YtghcmindankceaaGreatDoor
open Go.RowKit Go.Fk
def headL(sz:Nat)(p:Bool)(bu d q c n:Nat):List UInt8:=markB++[(if p then 1 else 0),UInt8.ofNat bu,UInt8.ofNat d,UInt8.ofNat q]++fixB 2 c++fixB 2 sz++fixB 4 n
theorem all5_any(W:World)(p0 p1 p2 p3 p4:Hd)(l0 l1 l2 l3 l4:List UInt8)(h0:See W eB p0.v l0)(h1:See W eB p1.v l1)(h2:See W eB p2.v l2)(h3:See W eB p3.v l3)(h4:See W eB p4.v l4)(hn:l0.length+l1.length+l2.length+l3.length+l4.length<=1000000) :
  Calls Tryz.prog 67 #[.slice (some ⟨W.heap.size,0,none⟩) 5 5] (W.alloc (.cells #[p0.v,p1.v,p2.v,p3.v,p4.v] 22)) fun e w'=>∃ v,e=.returned v/\Ow w' W.heap.size eB v (l0++l1++l2++l3++l4)/\Fr W w':=by
 have h5 := lit_sees2 W #[p0.v, p1.v, p2.v, p3.v, p4.v] 22 [p0, p1, p2, p3, p4] [l0, l1, l2, l3, l4] 5 rfl rfl rfl (by simp) (fun i ha hb => by
  match i, ha with
  | 0, _ => exact h0
  | 1, _ => exact h1
  | 2, _ => exact h2
  | 3, _ => exact h3
  | 4, _ => exact h4)
 refine(All_any _ _ _ _ h5 (by simp;omega)).mono ?_
 rintro e w' ⟨v,rfl,ho,hf⟩
 exact⟨v,rfl,by simpa using ho.rebase (b:=W.heap.size) (by simp),((Fr.refl W).alloc _).trans hf⟩
abbrev hdB(sz:Nat)(p:Bool)(bu d q c n:Nat)(xv:Value:=.int .u8 0):Obj:=.cells #[N sz,.bool p,N bu,N d,N q,N c,N n,xv] 78 (0,0)
end Go.Proofs.YtghcmindankceaaGreatDoor
