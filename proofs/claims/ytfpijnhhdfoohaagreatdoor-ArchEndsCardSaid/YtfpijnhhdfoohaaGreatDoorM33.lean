/- Parts of the proof of ArchEnds: Hd1. -/
import Derived.Test.YtfpijnhhdfoohaaGreatDoorM10
import Derived.Test.YtfpijnhhdfoohaaGreatDoorM31
set_option linter.unusedVariables false
set_option linter.unusedSectionVars false
set_option linter.unusedSimpArgs false
set_option maxHeartbeats 8000000
namespace Go.Proofs.YtfpijnhhdfoohaaGreatDoor
open Go.RowKit Go.Fk
def CO(e:Nat)(p:Bool)(h d q c n:Nat):List UInt8:=LJ++[(if p then 1 else 0),UInt8.ofNat h,UInt8.ofNat d,UInt8.ofNat q]++mw 2 c++mw 2 e++mw 4 n
theorem Q3(W:World)(d h m o q:Hd)(z A B D F:List UInt8)(I:ai W eB d.v z)(J:ai W eB h.v A)(K:ai W eB m.v B)(L:ai W eB o.v D)(M:ai W eB q.v F)(V:z.length+A.length+B.length+D.length+F.length<=1000000) :
  Calls Tryz.prog 32 #[.slice (some ⟨W.heap.size,0,none⟩) 5 5] (W.alloc (.cells #[d.v,h.v,m.v,o.v,q.v] 22)) fun e G=>∃ v,e=.returned v/\Ow G W.heap.size eB v (z++A++B++D++F)/\Fr W G:=by
 have O := xQ W #[d.v, h.v, m.v, o.v, q.v] 22 [d, h, m, o, q] [z, A, B, D, F] 5 rfl rfl rfl (by simp) (fun i Q X => by
  match i, Q with
  | 0, _ => exact I
  | 1, _ => exact J
  | 2, _ => exact K
  | 3, _ => exact L
  | 4, _ => exact M)
 refine(vh _ _ _ _ O (by simp;omega)).mono ?_;rintro e G ⟨v,rfl,R,U⟩;exact⟨v,rfl,by simpa using R.rebase (b:=W.heap.size) (by simp),((Fr.refl W).alloc _).trans U⟩
abbrev qT(e:Nat)(p:Bool)(h d q c n:Nat)(m:Value:=.int .u8 0):Obj:=.cells #[N e,.bool p,N h,N d,N q,N c,N n,m] 74 (0,0)
end Go.Proofs.YtfpijnhhdfoohaaGreatDoor
