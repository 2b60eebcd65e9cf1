/- Parts of the proof of ArchOne: E5. -/
import Derived.Test.YtdagmoonnbnceaaGreatDoorM16
import Derived.Test.YtdagmoonnbnceaaGreatDoorShelf
import Derived.Lib.ItoaNum
set_option linter.unusedVariables false
set_option linter.unusedSectionVars false
set_option linter.unusedSimpArgs false
set_option maxHeartbeats 8000000
set_option maxRecDepth 100000
namespace Go.Proofs.YtdagmoonnbnceaaGreatDoor
open Go.RowKit Go.Fk
theorem bitLen_log(q:Nat)(h1:1<=q)(h2:q<2 ^ 64):Lib.bitLen q=Nat.log2 q+1:=by
 obtain⟨a,b,c⟩:=Lib.bitLenAux_bounds 64 q h2 (by omega)
 show Lib.bitLenAux 64 q=_
 generalize Lib.bitLenAux 64 q=k at *
 obtain⟨j,rfl⟩:∃ j,k=j+1:=⟨k - 1,by omega⟩
 rw [log2_le q j (by simpa using b) c]
theorem ewidth_any(bound n:Nat)(hb:bound<=20000)(hn:1<=n)(hq:n<=bound)(w:World) :
  Calls Tryz.prog 119 #[N bound,N n] w fun e w'=>e=.returned (N (Nat.log2 (bound / n)))/\Fr w w':=by
 have hq1:1<=bound / n:=Nat.div_pos hq (by omega)
 have hq2:bound / n<=20000:=Nat.le_trans (Nat.div_le_self _ _) hb
 have hd:(bound:Int).tdiv n=((bound / n:Nat):Int):=by rw [Int.tdiv_eq_ediv_of_nonneg (by omega)];exact(Int.natCast_ediv _ _).symm
 have hd2:(bound:Int) / n=((bound / n:Nat):Int):=(Int.natCast_ediv _ _).symm
 have hn0:((n:Int) == 0)=false:=by simp;omega
 have hn1:n≠0:=by omega
 have hlog:=bitLen_log (bound / n) hq1 (by omega)
 generalize bound / n=q at *
 have hL:=Tryz.bits_Len (q:Int) w (by omega) (by omega)
 rw [Int.toNat_natCast,hlog]at hL
 have HL:=hid hL
 have hl14:Nat.log2 q<=14:=by
  refine Nat.le_of_lt_succ ((Nat.log2_lt (by omega)).2 ?_)
  omega
 clear hlog hL
 generalize Nat.log2 q=m at *
 go_enter Tryz.func119, Tryz.ntmps119
 go_wp2_with fail
 refine HL.out.mono ?_
 rintro e w1 ⟨rfl,rfl⟩
 go_wp2_with fail
 go_ret
 exact⟨by first | rfl | go_num,Fr.refl _⟩
theorem EWrite_any(bound:Nat)(hb:bound<=20000)(v:Value)(l:List Nat)(w:World)(hs:See w eJ v l)(hr:risesGo bound 0 l=true) :
  Calls Tryz.prog 82 #[N bound,v] w fun e w'=>∃ v,e=.returned (.tuple #[v,.int .i64 0])/\Ow w' w.heap.size eB v (efL bound l)/\Fr w w':=
 EfWrite_any bound hb v l w hs hr fun q W h1 h2=>ewidth_any bound q hb h1 (by have:=rises_len bound l 0 (Nat.zero_le _) hr;omega) W
end Go.Proofs.YtdagmoonnbnceaaGreatDoor
