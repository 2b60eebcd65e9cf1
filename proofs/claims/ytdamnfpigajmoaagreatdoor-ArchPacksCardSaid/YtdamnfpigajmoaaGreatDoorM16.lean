/- Parts of the proof of ArchPacks: Uv. -/
import Derived.Test.YtdamnfpigajmoaaGreatDoorM15
set_option linter.unusedVariables false
set_option linter.unusedSectionVars false
set_option linter.unusedSimpArgs false
set_option maxHeartbeats 8000000
set_option maxRecDepth 100000
namespace Go.Proofs.YtdamnfpigajmoaaGreatDoor
open Go.RowKit Go.Fk
def j5(b:List UInt8):Nat × Nat:=
 if(bS b).1=1\/(bS b).1=2 then((bS b).1,0)
 else if(decide (42<=b.length) && im b)=true then(3,0)
 else if(bS b).1=3 then(0,5)
 else(0,(bS b).2)
theorem wB(b:List UInt8)(h:(bS b).1=1\/(bS b).1=2):j5 b=((bS b).1,0):=ai h
theorem BW(b:List UInt8)(h:¬((bS b).1=1\/(bS b).1=2))(d:(decide (42<=b.length) && im b)=true):j5 b=(3,0):=by unfold j5;rw [ah h,ai d]
theorem BU(b:List UInt8)(h:¬((bS b).1=1\/(bS b).1=2))(d:(decide (42<=b.length) && im b)=false)(e:(bS b).1=3):j5 b=(0,5):=by unfold j5;rw [ah h,ah (by rw [d];simp),ai e]
theorem BV(b:List UInt8)(h:¬((bS b).1=1\/(bS b).1=2))(d:(decide (42<=b.length) && im b)=false)(e:¬(bS b).1=3):j5 b=(0,(bS b).2):=by unfold j5;rw [ah h,ah (by rw [d];simp),ah e]
theorem Bz(v:Value)(b:List UInt8)(w:World)(I:af w eB v b)(L:bU w) :
  Calls Tryz.prog 11 #[v] w fun e w'=>e=.returned (.tuple #[N (j5 b).1,.int .i64 ((j5 b).2:Int)])/\Fr w w':=by
 have z:=ad (vo v b w I);have K:=ad (fun W (h:Fr w W)=>Jh v b W (I.fr h) (L.fr h));have M:=ad (wB b);have Q:=ad (BW b);have R:=ad (BU b);have T:=ad (BV b);obtain⟨a0,ab,rfl,_⟩:=I.shape;clear I L;generalize (decide (42<=b.length) && im b)=U at *;generalize j5 b=V at *;generalize (bS b).1=m at *;generalize (bS b).2=er at *;by_cases A:m=1;· have o:=M.out (.inl A);subst o A;go_enter Tryz.func11, Tryz.ntmps11;go_wp2_with fail;refine(z.out).mono ?_;rintro e q ⟨rfl,d⟩;go_wp2_with fail;go_ret2;exact⟨rfl,d⟩
 · by_cases D:m=2;· have o:=M.out (.inr D);subst o D;go_enter Tryz.func11, Tryz.ntmps11;go_wp2_with fail;refine(z.out).mono ?_;rintro e q ⟨rfl,d⟩;go_wp2_with fail;go_ret2;exact⟨rfl,d⟩
   · have y:¬(m=1\/m=2):=(by omega);have X:¬(m:Int)=1:=(by omega);have Y:¬(m:Int)=2:=(by omega);have b1:((m:Int) == 1)=false:=(by simpa using X);have b2:((m:Int) == 2)=false:=by simpa using Y
     cases U with
     | true=>have o:=Q.out y rfl;subst o;clear A D y;go_enter Tryz.func11, Tryz.ntmps11;go_wp2_with fail;refine(z.out).mono ?_;rintro e q ⟨rfl,d⟩;have F:=ad (K.out q d);go_wp2_with fail;refine(F.out).mono ?_;rintro e O ⟨rfl,G⟩;go_wp2_with fail;go_ret2;exact⟨rfl,d.trans G⟩
     | false=>
      by_cases J:m=3;· have o:=R.out y rfl J;subst o J;clear A D y;go_enter Tryz.func11, Tryz.ntmps11;go_wp2_with fail;refine(z.out).mono ?_;rintro e q ⟨rfl,d⟩;have F:=ad (K.out q d);go_wp2_with fail;refine(F.out).mono ?_;rintro e O ⟨rfl,G⟩;go_wp2_with fail;go_ret2;exact⟨rfl,d.trans G⟩
      · have o:=T.out y rfl J;have Z:¬(m:Int)=3:=(by omega);have b3:((m:Int) == 3)=false:=(by simpa using Z);subst o;clear A D y J;go_enter Tryz.func11, Tryz.ntmps11;go_wp2_with fail;refine(z.out).mono ?_;rintro e q ⟨rfl,d⟩;have F:=ad (K.out q d);go_wp2_with fail;refine(F.out).mono ?_;rintro e O ⟨rfl,G⟩;go_wp2_with fail;go_ret2;exact⟨rfl,d.trans G⟩
end Go.Proofs.YtdamnfpigajmoaaGreatDoor
