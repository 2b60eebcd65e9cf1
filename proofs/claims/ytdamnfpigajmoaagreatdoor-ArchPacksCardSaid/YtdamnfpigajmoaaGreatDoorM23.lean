/- Parts of the proof of ArchPacks: E5. -/
import Derived.Test.YtdamnfpigajmoaaGreatDoorM18
import Derived.Test.YtdamnfpigajmoaaGreatDoorShelf
import Derived.Lib.ItoaNum
set_option linter.unusedVariables false
set_option linter.unusedSectionVars false
set_option linter.unusedSimpArgs false
set_option maxHeartbeats 8000000
set_option maxRecDepth 100000
namespace Go.Proofs.YtdamnfpigajmoaaGreatDoor
open Go.RowKit Go.Fk
theorem Ax(q:Nat)(e:1<=q)(d:q<2 ^ 64):Lib.bitLen q=Nat.log2 q+1:=by
 obtain⟨a,b,c⟩:=Lib.bitLenAux_bounds 64 q d (by omega);show Lib.bitLenAux 64 q=_;generalize Lib.bitLenAux 64 q=k at *;obtain⟨j,rfl⟩:∃ j,k=j+1:=⟨k - 1,by omega⟩;rw [yO q j (by simpa using b) c]
theorem GK(d n:Nat)(y:d<=20000)(G:1<=n)(z:n<=d)(w:World) :
  Calls Tryz.prog 156 #[N d,N n] w fun e w'=>e=.returned (N (Nat.log2 (d / n)))/\Fr w w':=by
 have D:1<=d / n:=Nat.div_pos z (by omega);have I:d / n<=20000:=aq (jO _ _) y;have J:(d:Int).tdiv n=((d / n:Nat):Int):=by rw [Int.tdiv_eq_ediv_of_nonneg (by omega)];exact(Int.natCast_ediv _ _).symm
 have K:(d:Int) / n=((d / n:Nat):Int):=(Int.natCast_ediv _ _).symm;have L:((n:Int) == 0)=false:=by simp;omega
 have M:n≠0:=by omega
 have o:=Ax (d / n) D (by omega);generalize d / n=q at *;have h:=Tryz.bits_Len (q:Int) w (by omega) (by omega);rw [Int.toNat_natCast,o]at h;have F:=ad h;have O:Nat.log2 q<=14:=by refine Nat.le_of_lt_succ ((Nat.log2_lt (by omega)).2 ?_);omega
 clear o h;generalize Nat.log2 q=m at *;go_enter Tryz.func156, Tryz.ntmps156;go_wp2_with fail;refine F.out.mono ?_;rintro e Q ⟨rfl,rfl⟩;go_wp2_with fail;go_ret;exact⟨by first | rfl | go_num,Fr.refl _⟩
theorem Lo(d:Nat)(h:d<=20000)(v:Value)(l:List Nat)(w:World)(o:af w eJ v l)(m:bQ d 0 l=true) :
  Calls Tryz.prog 105 #[N d,v] w fun e w'=>∃ v,e=.returned (.tuple #[v,.int .i64 0])/\Ow w' w.heap.size eB v (fF d l)/\Fr w w':=
 Ln d h v l w o m fun q W y z=>GK d q h y (by have:=qK d l 0 (ap _) m;omega) W
end Go.Proofs.YtdamnfpigajmoaaGreatDoor
