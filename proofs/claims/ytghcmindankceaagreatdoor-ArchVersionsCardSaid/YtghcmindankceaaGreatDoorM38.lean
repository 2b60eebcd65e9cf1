/- Parts of the proof of ArchVersions: I1 I2. -/
import Derived.RangeFuncBox
import Derived.RangeFuncLeaves
import Derived.RangeFuncNested
import Derived.RangeFuncBound
import Derived.RangeFuncCalls
import Derived.Shelf.Abstract
import Derived.Shelf.RegionOpen
import Derived.OwnWalkIn
import Derived.TacticsInMore
import Derived.LoopNIn
import Derived.LoopIn
import Derived.Sort.BigQuietIn
import Derived.Test.YtghcmindankceaaGreatDoorM04
import Derived.Test.YtghcmindankceaaGreatDoorM10
set_option linter.unusedVariables false
set_option linter.unusedSectionVars false
set_option linter.unusedSimpArgs false
set_option maxHeartbeats 8000000
namespace Go.Proofs.YtghcmindankceaaGreatDoor
open Go.RowKit Go.Fk
attribute [local go_sem] Oper.semAt_some
def ckHd(b off len c j:Nat):Hd:=⟨some ⟨b,off+j*c,none⟩,min c (len - j*c),min c (len - j*c)⟩
def ckN(len c:Nat):Nat:=(len+c - 1) / c
def ckUp(b off len c k:Nat):List Hd:=(List.range k).map (ckHd b off len c)
def KeepB(Bs Bn:Nat)(W W':World):Prop:=W'.heap[Bs]?=W.heap[Bs]?/\W'.heap[Bn]?=W.heap[Bn]?
theorem KeepB.refl(Bs Bn:Nat)(W:World):KeepB Bs Bn W W:=⟨rfl,rfl⟩
theorem KeepB.trans{Bs Bn:Nat}{A B C:World}(h:KeepB Bs Bn A B)(k:KeepB Bs Bn B C):KeepB Bs Bn A C:=⟨k.1.trans h.1,k.2.trans h.2⟩
theorem KeepB.put{Bs Bn B:Nat}(h1:Bs<B)(h2:Bn<B)(W:World)(l:Nat)(o o':Obj)(hl:B<=l)(_:W.heap[l]?=some o)(_:o.isCells=false)(_:o.isWalk=false):KeepB Bs Bn W (W.putObj l o'):=
 ⟨(grownBy_putObj' W l o').block Bs (by have:=(Array.getElem?_eq_some_iff.1 ‹W.heap[l]?=some o›).1;omega) (fun e=>by cases e;omega),(grownBy_putObj' W l o').block Bn (by have:=(Array.getElem?_eq_some_iff.1 ‹W.heap[l]?=some o›).1;omega) (fun e=>by cases e;omega)⟩
attribute [local go_sem] Oper.semAt_some
section
variable {P:Program} {α:Type} {w:World} {base:Nat} {v:Value} {l:List α} {F:Fence} {nF:Nat}
end
def CollI(w:World)(B:Nat)(pre:List Hd)(W:World):Prop:=(∃ v,W.heap[B]?=some (.cells #[v] 51 (0,0))/\Ow W (B+1) eHB v pre)/\Below B w W
theorem ow_keptG{P:Program}{α:Type}{E:Elt P α}{w w':World}{base:Nat}{v:Value}{l:List α}{row:Option Nat}(h:Ow w base E v l)(hg:w.grownBy w' row)(hr:∀ r,row=some r->∃ o:Obj,w.heap[r]?=some o/\o.isCells=false):Ow w' base E v l:=by
 refine h.kept hg ?_
 cases hv:v.ownBlock with
 | none=>exact .inl rfl
 | some g=>
  refine .inr fun e=>?_
  obtain⟨o,ho,hc⟩:=hr g e.symm
  rcases h.2 with⟨h1,_⟩ | ⟨q,cap,cur,h1,_,h2,_⟩
  · rw [h1]at hv;cases hv
  · rw [h1]at hv
    simp only [Value.ownBlock,Option.some.injEq]at hv
    subst hv
    rw [h2]at ho
    cases ho
    cases hc
theorem CollI.own(w:World)(B D:Nat)(hBD:B<D):OwnFrom D (CollI w B):=by
 rintro s W W' row ⟨⟨v,hh,ho⟩,hb⟩ hg hr
 have hne:some B≠row:=fun e=>by
  have:=(hr B e.symm).1;omega
 refine⟨⟨v,?_,ow_keptG ho hg (fun r e=>(hr r e).2)⟩,?_⟩
 · rw [hg.block B (Array.getElem?_eq_some_iff.1 hh).1 hne];exact hh
 · exact hb.grown hg (by have:=(Array.getElem?_eq_some_iff.1 hh).1;omega) (fun k e=>by have:=(hr k e).1;omega)
def chunksL{α:Type}(l:List α)(c:Nat):List (List α):=(List.range (ckN l.length c)).map fun j=>(l.drop (j*c)).take c
end Go.Proofs.YtghcmindankceaaGreatDoor
