/- Parts of the proof of ArchEnds: Frame FrameB. -/
import Derived.Test.YtfpijnhhdfoohaaGreatDoorM02
import Derived.ProofKit
import Derived.SliceStrings
import Derived.OpenShut
import Derived.ShutString
import Derived.ChangeOld
set_option linter.unusedVariables false
set_option linter.unusedSectionVars false
set_option linter.unusedSimpArgs false
set_option maxHeartbeats 8000000
namespace Go.Fk
abbrev bEQb:=@List.getElem?_eq_getElem
abbrev cDQb:=@List.getD_eq_getElem?_getD
abbrev bXQb:=@List.getElem_mem
abbrev fxQb:=@decide_eq_true_eq
abbrev dqQb:=@Nat.mul_one
abbrev etQc:=@Nat.add_zero
abbrev iHQb:=@Bool.and_eq_true
abbrev jYQb:=@List.getElem_map
abbrev lPQb:=@UInt8.toNat_ofNat'
abbrev oVQb:=@List.getElem_take
abbrev oUQb:=@Nat.mod_eq_of_lt
abbrev vFQb:=@List.cons.injEq
end Go.Fk
namespace Go.Fk
open Go.RowKit Go.ChangeShapes Go.WideShapes Go.ChangeAt
open Go.ChangeMaps (open_string shut_string)
end Go.Fk
namespace Go.Fk
open Go.RowKit Go.ChangeShapes Go.WideShapes Go.ChangeAt
theorem IN {P : Program} {H : Type} {enc : TypeId × Value → H} {w : World} {base : Nat} {I : Nat → Bool} {J : Bool} {t : TypeId} (E : au P UInt8) (A : E.enc = fun c => [u8 c]) (K : P.underlying t = some (.slice E.e)) (L : P.underlying E.e = some (.int .u8)) (M : P.cellsOf E.e = 1)
    {fuel:Nat} {v:Value} {x:DataW H × List MemPlace} (h:DataW.trod enc P w base I J fuel t v.cells.toList=some x) (hv:v.cells.toList=[v]):∃ l,ai w E v l:=by
  rw [hv]at h;have B:E.k=1:=(by rw [<- E.len E.zero,A];rfl);rcases open_ints K L M h with⟨m,_⟩ | ⟨a,e,O,d,m,_,hl,Q,R,_,D,U⟩;· simp only [vFQb,nU]at m;subst m;exact⟨[],ai.nil⟩
  · simp only [vFQb,nU]at m;subst m;have aj:e<=d.length:=(by split at R <;> omega);refine⟨(d.take e).map fun z=>UInt8.ofNat z.toNat,?_⟩;have o:((d.take e).map fun z=>UInt8.ofNat z.toNat).length=e:=(by simp;omega);refine⟨E.length_cells _,some a,O,by rw [o],by omega,Q,by simp,?_⟩;by_cases V:e=0;· exact .inl (by rw [o,V])
    · right;have X:=D 0 (by omega);obtain⟨b,Y,Z⟩:=a;have aa:Z=none:=(by simpa [Addr.add] using World.cell?_spot X);subst aa;refine⟨b,Y,rfl,fun j u q=>?_⟩;have ab:j<e:=(by have:=(r9.1 q).1;rw [E.length_cells,o,B,dqQb]at this;exact this);have F:=D j (by omega);rw [ny]at F;rw [F];have:=E.cells_at ((d.take e).map fun z=>UInt8.ofNat z.toNat) j (by rw [o];exact ab) 0 (by omega);rw [B,dqQb,etQc]at this;rw [this,A]at q;simp only [List.getElem?_cons_zero,jYQb,oVQb,lQ]at q;rw [<- q];have G:=U (d[j]'(by omega)) (bXQb _);have hb:(0:Int)<=d[j]'(by omega)/\d[j]'(by omega)<=255:=(by simp only [Lit.wf,iHQb,fxQb]at G;exact G);rw [cDQb,bEQb (by omega)];show some (Value.int .u8 (d[j]'(by omega)))=some (Value.int .u8 (((UInt8.ofNat (d[j]'(by omega)).toNat).toNat:Nat):Int));congr 2;rw [lPQb,oUQb (by omega)];omega
end Go.Fk
