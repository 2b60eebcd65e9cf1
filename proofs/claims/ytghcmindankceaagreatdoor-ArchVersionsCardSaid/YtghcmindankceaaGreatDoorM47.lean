/- Parts of the proof of ArchVersions: Frame FrameB. -/
import Derived.Test.YtghcmindankceaaGreatDoorM00
import Derived.ProofKit
import Derived.SliceStrings
import Derived.OpenShut
import Derived.ShutString
import Derived.ChangeOld
set_option linter.unusedVariables false
set_option linter.unusedSectionVars false
set_option linter.unusedSimpArgs false
set_option maxHeartbeats 8000000
namespace Go.Fk
open Go.RowKit Go.ChangeShapes Go.WideShapes Go.ChangeAt
open Go.ChangeMaps (open_string shut_string)
end Go.Fk
namespace Go.Fk
open Go.RowKit Go.ChangeShapes Go.WideShapes Go.ChangeAt
theorem see_bytes {P : Program} {H : Type} {enc : TypeId × Value → H} {w : World} {base : Nat} {spare : Nat → Bool} {held : Bool} {t : TypeId} (E : Elt P UInt8) (hE : E.enc = fun c => [u8 c]) (ht : P.underlying t = some (.slice E.e)) (he : P.underlying E.e = some (.int .u8)) (hc : P.cellsOf E.e = 1)
    {fuel:Nat} {v:Value} {x:DataW H × List MemPlace} (h:DataW.trod enc P w base spare held fuel t v.cells.toList=some x) (hv:v.cells.toList=[v]):∃ l,See w E v l:=by
  rw [hv]at h
  have hk:E.k=1:=by rw [<- E.len E.zero,hE];rfl
  rcases open_ints ht he hc h with⟨hcs,_⟩ | ⟨a,len,cap,zs,hcs,_,hl,hm,hz,_,hcell,hwf⟩
  · simp only [List.cons.injEq,and_true]at hcs
    subst hcs
    exact⟨[],See.nil⟩
  · simp only [List.cons.injEq,and_true]at hcs
    subst hcs
    have hlen:len<=zs.length:=by split at hz <;> omega
    refine⟨(zs.take len).map fun z=>UInt8.ofNat z.toNat,?_⟩
    have e0:((zs.take len).map fun z=>UInt8.ofNat z.toNat).length=len:=by simp;omega
    refine⟨E.length_cells _,some a,cap,by rw [e0],by omega,hm,by simp,?_⟩
    by_cases h0:len=0
    · exact .inl (by rw [e0,h0])
    · right
      have hc0:=hcell 0 (by omega)
      obtain⟨b,off,spot⟩:=a
      have hspot:spot=none:=by simpa [Addr.add] using World.cell?_spot hc0
      subst hspot
      refine⟨b,off,rfl,fun j u hj=>?_⟩
      have hj1:j<len:=by
        have:=(List.getElem?_eq_some_iff.1 hj).1
        rw [E.length_cells,e0,hk,Nat.mul_one]at this
        exact this
      have hcj:=hcell j (by omega)
      rw [Addr.add_lit]at hcj
      rw [hcj]
      have:=E.cells_at ((zs.take len).map fun z=>UInt8.ofNat z.toNat) j (by rw [e0];exact hj1) 0 (by omega)
      rw [hk,Nat.mul_one,Nat.add_zero]at this
      rw [this,hE]at hj
      simp only [List.getElem?_cons_zero,List.getElem_map,List.getElem_take,Option.some.injEq]at hj
      rw [<- hj]
      have hw:=hwf (zs[j]'(by omega)) (List.getElem_mem _)
      have hb:(0:Int)<=zs[j]'(by omega)/\zs[j]'(by omega)<=255:=by
        simp only [Lit.wf,Bool.and_eq_true,decide_eq_true_eq]at hw
        exact hw
      rw [List.getD_eq_getElem?_getD,List.getElem?_eq_getElem (by omega)]
      show some (Value.int .u8 (zs[j]'(by omega)))=some (Value.int .u8 (((UInt8.ofNat (zs[j]'(by omega)).toNat).toNat:Nat):Int))
      congr 2
      rw [UInt8.toNat_ofNat',Nat.mod_eq_of_lt (by omega)]
      omega
end Go.Fk
