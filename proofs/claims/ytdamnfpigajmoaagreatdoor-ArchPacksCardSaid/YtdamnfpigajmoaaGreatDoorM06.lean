/- Parts of the proof of ArchPacks: O3 U2 Pa Pe. -/
import Derived.Test.YtdamnfpigajmoaaGreatDoorM05
import Derived.Lib.SmallJoins
import Derived.Lib.SliceRun
import Derived.Lib.AppendZeros
set_option linter.unusedVariables false
set_option linter.unusedSectionVars false
set_option linter.unusedSimpArgs false
set_option maxHeartbeats 8000000
set_option maxRecDepth 100000
namespace Go.Fk
abbrev b6:=@Go.bodyPost_ret
abbrev vU:=@Go.Joins.run_convert_bytes_const_at
end Go.Fk
namespace Go.Proofs.YtdamnfpigajmoaaGreatDoor
open Go.RowKit Go.Fk
def iF:List UInt8:=[70,73,82,75,3]
abbrev oM(w:World):World:=(w.alloc (.cells #[.int .u8 70,.int .u8 73,.int .u8 82,.int .u8 75] 5 (4,5))).alloc (.cells #[.int .u8 3] 5)
theorem F4(w:World):∃ v w',(Builtin.append_ #[29,29] 29 #[.slice (some ⟨w.heap.size,0,none⟩) 4 4,.slice (some ⟨w.heap.size+1,0,none⟩) 1 1]).run Tryz.prog (oM w)=.ok v w'/\Ow w' w.heap.size eB v iF/\Fr w w':=by
  obtain⟨i,o,y,z,A⟩:=lR eB.info;have h:(w.alloc (.cells #[.int .u8 70,.int .u8 73,.int .u8 82,.int .u8 75] 5 (4,5))).heap.size=w.heap.size+1:=(by simp);obtain ⟨v, w', D, F, G⟩ := run_append_arg_grows (P := Tryz.prog) (oM w) 29 29 eB.e i eB.z eB.k eB.bytes Tryz.underlying29 o y z A rfl (by decide) ⟨w.heap.size, 0, none⟩ 4 4 (eB.cells [70, 73, 82, 75]) rfl (by
      intro j u d;rw [me, js];have e : (oM w).heap[w.heap.size]? = some (.cells #[.int .u8 70, .int .u8 73, .int .u8 82, .int .u8 75] 5 (4, 5)) := (by rw [gz _ _ _ (by rw [h]; omega)]; exact au _ _ _ rfl);rw [aL e];have m := (pS.1 d).1;have m : j < 4 := m;rw [← sf]
      exact d) ⟨w.heap.size + 1, 0, none⟩ 1 1 (eB.cells [3]) rfl (by
      intro j u d;rw [me, js];have e : (oM w).heap[w.heap.size + 1]? = some (.cells #[.int .u8 3] 5 (0, 0)) := au _ _ _ h.symm;rw [aL e, ← sf]
      exact d) (by omega) (by unfold maxLen; omega) (by decide)
  refine⟨v,w',D,?_,?_⟩;· have:Ow w' (oM w).heap.size eB v iF:=F;exact this.rebase (by simp;omega)
  · exact ak.below (((Fr.refl w).alloc _).alloc _) (lK G) (by simp;omega) (fun q I=>by cases I)
theorem KS(w:World):Calls Tryz.prog 29 #[.int .i64 3] w fun e w'=>∃ v,e=.returned (.tuple #[v,.int .i64 0])/\Ow w' w.heap.size eB v iF/\Fr w w':=by
 have d:=ad (ik 3 1 3);rw [show(decide ((1:Int)<=3/\(3:Int)<=3))=true from rfl]at d
 have z:(convert 29 29 (.slice (some ⟨w.heap.size,0,none⟩) 4 4)).run Tryz.prog (w.alloc (.cells #[.int .u8 70,.int .u8 73,.int .u8 82,.int .u8 75] 5))=.ok (.slice (some ⟨w.heap.size,0,none⟩) 4 4) (w.alloc (.cells #[.int .u8 70,.int .u8 73,.int .u8 82,.int .u8 75] 5 (4,5))):=
  vU w 29 5 #[.int .u8 70,.int .u8 73,.int .u8 82,.int .u8 75] 4 4 w.heap.size rfl Tryz.underlying29 Tryz.underlying5
 obtain⟨v,w4,m,h,o⟩:=F4 w;obtain⟨q,y,rfl⟩:=h.shape';go_enter Tryz.func29, Tryz.ntmps29;go_wp2_with fail;refine(d.out _).mono ?_;rintro e D ⟨rfl,rfl⟩;go_wp2_with (at_builtin;refine Lib.wpList_append_run _ rfl (.tmp 8) (.tmp 11) 29 29 rfl _ _ rfl rfl _ _ m ?_);exact b6 (v:=.tuple #[.slice q iF.length y,.int .i64 0]) (by simp [results,Tryz.results29,go_sem, *]) rfl ⟨_,rfl,h,o⟩
def kP(o:be):Bool:=decide (16<=o.b/\o.b<=32768)
theorem vr(o:be)(d:o.bu=0/\o.d=0/\o.p=0/\o.c=0)(w:World):Calls Tryz.prog 26 #[.int .i64 1,aK o] w fun e w'=>e=.returned (.int .i64 (if kP o then 0 else 9))/\Fr w w':=by
 have h:=ad (ik o.b 16 32768);have m:Hid ((if kP o then(0:Int)else 9)=if(decide (16<=o.b/\o.b<=32768))=true then 0 else 9):=rfl;generalize decide (16<=o.b/\o.b<=32768)=q at *;generalize (if kP o then(0:Int)else 9)=R at *;obtain⟨y,z,A,D,op,F⟩:=o;simp only at h d;obtain⟨rfl,rfl,rfl,rfl⟩:=d;go_enter Tryz.func26, Tryz.ntmps26;go_wp2_with fail;refine(h.out _).mono ?_;rintro e G ⟨rfl,rfl⟩;cases q;· go_wp2_with fail;go_ret;exact⟨by rw [m.out];rfl,((Fr.refl w).alloc _).alloc _⟩
 · go_wp2_with fail;go_ret;exact⟨by rw [m.out];rfl,((Fr.refl w).alloc _).alloc _⟩
def dy(c:UInt8):List UInt8:=[70,73,82,75,c]
abbrev oN(c:UInt8)(w:World):World:=(w.alloc (.cells #[.int .u8 70,.int .u8 73,.int .u8 82,.int .u8 75] 5 (4,5))).alloc (.cells #[.int .u8 (c.toNat:Int)] 5)
theorem yJ(c:UInt8)(w:World):∃ v w',(Builtin.append_ #[29,29] 29 #[.slice (some ⟨w.heap.size,0,none⟩) 4 4,.slice (some ⟨w.heap.size+1,0,none⟩) 1 1]).run Tryz.prog (oN c w)=.ok v w'/\Ow w' w.heap.size eB v (dy c)/\Fr w w':=by
  obtain⟨i,o,y,z,A⟩:=lR eB.info;have h:(w.alloc (.cells #[.int .u8 70,.int .u8 73,.int .u8 82,.int .u8 75] 5 (4,5))).heap.size=w.heap.size+1:=(by simp);obtain ⟨v, w', D, F, G⟩ := run_append_arg_grows (P := Tryz.prog) (oN c w) 29 29 eB.e i eB.z eB.k eB.bytes Tryz.underlying29 o y z A rfl (by decide) ⟨w.heap.size, 0, none⟩ 4 4 (eB.cells [70, 73, 82, 75]) rfl (by
      intro j u d;rw [me, js];have e : (oN c w).heap[w.heap.size]? = some (.cells #[.int .u8 70, .int .u8 73, .int .u8 82, .int .u8 75] 5 (4, 5)) := (by rw [gz _ _ _ (by rw [h]; omega)]; exact au _ _ _ rfl);rw [aL e];have m := (pS.1 d).1;have m : j < 4 := m;rw [← sf]
      exact d) ⟨w.heap.size + 1, 0, none⟩ 1 1 (eB.cells [c]) rfl (by
      intro j u d;rw [me, js];have e : (oN c w).heap[w.heap.size + 1]? = some (.cells #[.int .u8 (c.toNat : Int)] 5 (0, 0)) := au _ _ _ h.symm;rw [aL e, ← sf]
      exact d) (by omega) (by unfold maxLen; omega) (by decide)
  refine⟨v,w',D,?_,?_⟩;· have:Ow w' (oN c w).heap.size eB v (dy c):=F;exact this.rebase (by simp;omega)
  · exact ak.below (((Fr.refl w).alloc _).alloc _) (lK G) (by simp;omega) (fun q I=>by cases I)
theorem KU(w:World):Calls Tryz.prog 29 #[.int .i64 1] w fun e w'=>∃ v,e=.returned (.tuple #[v,.int .i64 0])/\Ow w' w.heap.size eB v (dy 1)/\Fr w w':=by
 have h:=ad (ik 1 1 3);rw [show(decide ((1:Int)<=1/\(1:Int)<=3))=true from rfl]at h
 have z:(convert 29 29 (.slice (some ⟨w.heap.size,0,none⟩) 4 4)).run Tryz.prog (w.alloc (.cells #[.int .u8 70,.int .u8 73,.int .u8 82,.int .u8 75] 5))=.ok (.slice (some ⟨w.heap.size,0,none⟩) 4 4) (w.alloc (.cells #[.int .u8 70,.int .u8 73,.int .u8 82,.int .u8 75] 5 (4,5))):=
  vU w 29 5 #[.int .u8 70,.int .u8 73,.int .u8 82,.int .u8 75] 4 4 w.heap.size rfl Tryz.underlying29 Tryz.underlying5
 obtain⟨v,w4,d,m,y⟩:=yJ 1 w;obtain⟨o,q,rfl⟩:=m.shape';replace d:(Builtin.append_ #[29,29] 29 #[.slice (some ⟨w.heap.size,0,none⟩) 4 4,.slice (some ⟨w.heap.size+1,0,none⟩) 1 1]).run Tryz.prog ((w.alloc (.cells #[.int .u8 70,.int .u8 73,.int .u8 82,.int .u8 75] 5 (4,5))).alloc (.cells #[.int .u8 1] 5))=.ok (.slice o (dy 1).length q) w4:=d;go_enter Tryz.func29, Tryz.ntmps29;go_wp2_with fail;refine(h.out _).mono ?_;rintro e D ⟨rfl,rfl⟩;go_wp2_with (at_builtin;refine Lib.wpList_append_run _ rfl (.tmp 8) (.tmp 11) 29 29 rfl _ _ rfl rfl _ _ d ?_);exact b6 (v:=.tuple #[.slice o (dy 1).length q,.int .i64 0]) (by simp [results,Tryz.results29,go_sem, *]) rfl ⟨_,rfl,m,y⟩
def gQ(o:be):Bool:=kP o && decide (o.bu=0/\o.d=0/\o.p=0/\o.c=0)
def gP(o:be):Bool:=dF o && decide (o.d=0/\o.p=0/\o.c=0)
theorem KP(o:be)(h:¬(o.bu=0/\o.d=0/\o.p=0/\o.c=0))(w:World):Calls Tryz.prog 26 #[.int .i64 1,aK o] w fun e w'=>e=.returned (.int .i64 9)/\Fr w w':=by
 have q:=ad (ik o.b 16 32768);generalize decide (16<=o.b/\o.b<=32768)=z at *;obtain⟨G,I,A,D,op,F⟩:=o;simp only at q h;go_enter Tryz.func26, Tryz.ntmps26;go_wp2_with fail;refine(q.out _).mono ?_;rintro e J ⟨rfl,rfl⟩;cases z;· go_wp2_with fail;go_ret;exact⟨rfl,((Fr.refl w).alloc _).alloc _⟩
 · by_cases d:A=0
   · by_cases m:D=0
     · by_cases y:op=0;· have K:¬F=0:=fun e=>h ⟨d,m,y,e⟩;clear h;subst d m y;go_wp2_with fail;go_ret;exact⟨rfl,((Fr.refl w).alloc _).alloc _⟩
       · clear h;subst d m;go_wp2_with fail;go_ret;exact⟨rfl,((Fr.refl w).alloc _).alloc _⟩
     · clear h;subst d;go_wp2_with fail;go_ret;exact⟨rfl,((Fr.refl w).alloc _).alloc _⟩
   · clear h;go_wp2_with fail;go_ret;exact⟨rfl,((Fr.refl w).alloc _).alloc _⟩
theorem Bi(o:be)(w:World):Calls Tryz.prog 26 #[.int .i64 1,aK o] w fun e w'=>e=.returned (.int .i64 (if gQ o then 0 else 9))/\Fr w w':=by
 by_cases h:o.bu=0/\o.d=0/\o.p=0/\o.c=0;· have d:gQ o=kP o:=(by unfold gQ;rw [bs h,Bool.and_true]);rw [d];exact vr o h w
 · have d:gQ o=false:=(by unfold gQ;rw [bi h,Bool.and_false]);rw [d];exact KP o h w
theorem KO(o:be)(h:¬(o.d=0/\o.p=0/\o.c=0))(w:World):Calls Tryz.prog 26 #[.int .i64 2,aK o] w fun e w'=>e=.returned (.int .i64 9)/\Fr w w':=by
 have m:=ad (ik o.b 16 32768);have q:=ad (ik o.bu 1 64);generalize decide (16<=o.b/\o.b<=32768)=z at *;generalize decide (1<=o.bu/\o.bu<=64)=A at *;obtain⟨G,I,J,D,op,F⟩:=o;simp only at m q h;go_enter Tryz.func26, Tryz.ntmps26;go_wp2_with fail;refine(m.out _).mono ?_;rintro e K ⟨rfl,rfl⟩;cases z;· go_wp2_with fail;go_ret;exact⟨rfl,((Fr.refl w).alloc _).alloc _⟩
 · go_wp2_with fail;refine(q.out _).mono ?_;rintro e L ⟨rfl,rfl⟩;cases A;· go_wp2_with fail;go_ret;exact⟨rfl,((Fr.refl w).alloc _).alloc _⟩
   · by_cases d:D=0
     · by_cases y:op=0;· have M:¬F=0:=fun e=>h ⟨d,y,e⟩;clear h;subst d y;go_wp2_with fail;go_ret;exact⟨rfl,((Fr.refl w).alloc _).alloc _⟩
       · clear h;subst d;go_wp2_with fail;go_ret;exact⟨rfl,((Fr.refl w).alloc _).alloc _⟩
     · clear h;go_wp2_with fail;go_ret;exact⟨rfl,((Fr.refl w).alloc _).alloc _⟩
theorem Bh(o:be)(w:World):Calls Tryz.prog 26 #[.int .i64 2,aK o] w fun e w'=>e=.returned (.int .i64 (if gP o then 0 else 9))/\Fr w w':=by
 by_cases h:o.d=0/\o.p=0/\o.c=0;· have d:gP o=dF o:=(by unfold gP;rw [bs h,Bool.and_true]);rw [d];exact vq o h w
 · have d:gP o=false:=(by unfold gP;rw [bi h,Bool.and_false]);rw [d];exact KO o h w
theorem Kr(d h m op o:Int)(q:Bool)(y:d<16)(w:World):Calls Tryz.prog 13 #[.int .i64 1,.agg #[.int .i64 d,.bool q,.int .i64 h,.int .i64 m,.int .i64 op,.int .i64 o]] w fun e w'=>e=.returned (.int .i64 9)/\Fr w w':=by
 go_enter Tryz.func13, Tryz.ntmps13;go_wp2_with fail;go_ret;exact⟨rfl,(Fr.refl w).alloc _⟩
theorem Kq(d h m op o:Int)(q:Bool)(y:16<=d)(z:32768<d)(w:World):Calls Tryz.prog 13 #[.int .i64 1,.agg #[.int .i64 d,.bool q,.int .i64 h,.int .i64 m,.int .i64 op,.int .i64 o]] w fun e w'=>e=.returned (.int .i64 9)/\Fr w w':=by
 go_enter Tryz.func13, Tryz.ntmps13;go_wp2_with fail;go_ret;exact⟨rfl,(Fr.refl w).alloc _⟩
theorem Kp(d h m op o:Int)(q:Bool)(y:16<=d)(z:d<=32768)(A:¬h=0)(w:World):Calls Tryz.prog 13 #[.int .i64 1,.agg #[.int .i64 d,.bool q,.int .i64 h,.int .i64 m,.int .i64 op,.int .i64 o]] w fun e w'=>e=.returned (.int .i64 9)/\Fr w w':=by
 go_enter Tryz.func13, Tryz.ntmps13;go_wp2_with fail;go_ret;exact⟨rfl,(Fr.refl w).alloc _⟩
theorem Ko(d h m op o:Int)(q:Bool)(z:16<=d)(A:d<=32768)(y:h=0)(D:¬m=0)(w:World):Calls Tryz.prog 13 #[.int .i64 1,.agg #[.int .i64 d,.bool q,.int .i64 h,.int .i64 m,.int .i64 op,.int .i64 o]] w fun e w'=>e=.returned (.int .i64 9)/\Fr w w':=by
 subst y;go_enter Tryz.func13, Tryz.ntmps13;go_wp2_with fail;go_ret;exact⟨rfl,(Fr.refl w).alloc _⟩
theorem Kn(d h m op o:Int)(q:Bool)(A:16<=d)(D:d<=32768)(y:h=0)(z:m=0)(F:¬op=0)(w:World):Calls Tryz.prog 13 #[.int .i64 1,.agg #[.int .i64 d,.bool q,.int .i64 h,.int .i64 m,.int .i64 op,.int .i64 o]] w fun e w'=>e=.returned (.int .i64 9)/\Fr w w':=by
 subst y;subst z;go_enter Tryz.func13, Tryz.ntmps13;go_wp2_with fail;go_ret;exact⟨rfl,(Fr.refl w).alloc _⟩
theorem Km(d h m op o:Int)(q:Bool)(D:16<=d)(F:d<=32768)(y:h=0)(z:m=0)(A:op=0)(G:¬o=0)(w:World):Calls Tryz.prog 13 #[.int .i64 1,.agg #[.int .i64 d,.bool q,.int .i64 h,.int .i64 m,.int .i64 op,.int .i64 o]] w fun e w'=>e=.returned (.int .i64 9)/\Fr w w':=by
 subst y;subst z;subst A;go_enter Tryz.func13, Tryz.ntmps13;go_wp2_with fail;go_ret;exact⟨rfl,(Fr.refl w).alloc _⟩
theorem Kl(d h m op o:Int)(q:Bool)(F:16<=d)(G:d<=32768)(y:h=0)(z:m=0)(A:op=0)(D:o=0)(w:World):Calls Tryz.prog 13 #[.int .i64 1,.agg #[.int .i64 d,.bool q,.int .i64 h,.int .i64 m,.int .i64 op,.int .i64 o]] w fun e w'=>e=.returned (.int .i64 0)/\Fr w w':=by
 subst y;subst z;subst A;subst D;go_enter Tryz.func13, Tryz.ntmps13;go_wp2_with fail;go_ret;exact⟨rfl,(Fr.refl w).alloc _⟩
theorem Kk(d h m op o:Int)(q:Bool)(y:d<16)(w:World):Calls Tryz.prog 13 #[.int .i64 2,.agg #[.int .i64 d,.bool q,.int .i64 h,.int .i64 m,.int .i64 op,.int .i64 o]] w fun e w'=>e=.returned (.int .i64 9)/\Fr w w':=by
 go_enter Tryz.func13, Tryz.ntmps13;go_wp2_with fail;go_ret;exact⟨rfl,(Fr.refl w).alloc _⟩
theorem Kj(d h m op o:Int)(q:Bool)(y:16<=d)(z:32768<d)(w:World):Calls Tryz.prog 13 #[.int .i64 2,.agg #[.int .i64 d,.bool q,.int .i64 h,.int .i64 m,.int .i64 op,.int .i64 o]] w fun e w'=>e=.returned (.int .i64 9)/\Fr w w':=by
 go_enter Tryz.func13, Tryz.ntmps13;go_wp2_with fail;go_ret;exact⟨rfl,(Fr.refl w).alloc _⟩
theorem Ki(d h m op o:Int)(q:Bool)(y:16<=d)(z:d<=32768)(A:h<1)(w:World):Calls Tryz.prog 13 #[.int .i64 2,.agg #[.int .i64 d,.bool q,.int .i64 h,.int .i64 m,.int .i64 op,.int .i64 o]] w fun e w'=>e=.returned (.int .i64 9)/\Fr w w':=by
 go_enter Tryz.func13, Tryz.ntmps13;go_wp2_with fail;go_ret;exact⟨rfl,(Fr.refl w).alloc _⟩
theorem Kh(d h m op o:Int)(q:Bool)(y:16<=d)(z:d<=32768)(A:1<=h)(D:64<h)(w:World):Calls Tryz.prog 13 #[.int .i64 2,.agg #[.int .i64 d,.bool q,.int .i64 h,.int .i64 m,.int .i64 op,.int .i64 o]] w fun e w'=>e=.returned (.int .i64 9)/\Fr w w':=by
 go_enter Tryz.func13, Tryz.ntmps13;go_wp2_with fail;go_ret;exact⟨rfl,(Fr.refl w).alloc _⟩
theorem Kg(d h m op o:Int)(q:Bool)(y:16<=d)(z:d<=32768)(A:1<=h)(D:h<=64)(F:¬m=0)(w:World):Calls Tryz.prog 13 #[.int .i64 2,.agg #[.int .i64 d,.bool q,.int .i64 h,.int .i64 m,.int .i64 op,.int .i64 o]] w fun e w'=>e=.returned (.int .i64 9)/\Fr w w':=by
 go_enter Tryz.func13, Tryz.ntmps13;go_wp2_with fail;go_ret;exact⟨rfl,(Fr.refl w).alloc _⟩
theorem Kf(d h m op o:Int)(q:Bool)(z:16<=d)(A:d<=32768)(D:1<=h)(F:h<=64)(y:m=0)(G:¬op=0)(w:World):Calls Tryz.prog 13 #[.int .i64 2,.agg #[.int .i64 d,.bool q,.int .i64 h,.int .i64 m,.int .i64 op,.int .i64 o]] w fun e w'=>e=.returned (.int .i64 9)/\Fr w w':=by
 subst y;go_enter Tryz.func13, Tryz.ntmps13;go_wp2_with fail;go_ret;exact⟨rfl,(Fr.refl w).alloc _⟩
theorem Ke(d h m op o:Int)(q:Bool)(A:16<=d)(D:d<=32768)(F:1<=h)(G:h<=64)(y:m=0)(z:op=0)(I:¬o=0)(w:World):Calls Tryz.prog 13 #[.int .i64 2,.agg #[.int .i64 d,.bool q,.int .i64 h,.int .i64 m,.int .i64 op,.int .i64 o]] w fun e w'=>e=.returned (.int .i64 9)/\Fr w w':=by
 subst y;subst z;go_enter Tryz.func13, Tryz.ntmps13;go_wp2_with fail;go_ret;exact⟨rfl,(Fr.refl w).alloc _⟩
theorem Kd(d h m op o:Int)(q:Bool)(D:16<=d)(F:d<=32768)(G:1<=h)(I:h<=64)(y:m=0)(z:op=0)(A:o=0)(w:World):Calls Tryz.prog 13 #[.int .i64 2,.agg #[.int .i64 d,.bool q,.int .i64 h,.int .i64 m,.int .i64 op,.int .i64 o]] w fun e w'=>e=.returned (.int .i64 0)/\Fr w w':=by
 subst y;subst z;subst A;go_enter Tryz.func13, Tryz.ntmps13;go_wp2_with fail;go_ret;exact⟨rfl,(Fr.refl w).alloc _⟩
theorem tL(o:be):gQ o=true↔16<=o.b/\o.b<=32768/\o.bu=0/\o.d=0/\o.p=0/\o.c=0:=by
 unfold gQ kP;simp only [f8,fi];constructor;· rintro⟨⟨a,b⟩,c⟩;exact⟨a,b,c⟩
 · rintro⟨a,b,c⟩;exact⟨⟨a,b⟩,c⟩
theorem tK(o:be):gP o=true↔16<=o.b/\o.b<=32768/\1<=o.bu/\o.bu<=64/\o.d=0/\o.p=0/\o.c=0:=by
 unfold gP;rw [f8,lG,fi];constructor;· rintro⟨⟨a,b,c,d⟩,e⟩;exact⟨a,b,c,d,e⟩
 · rintro⟨a,b,c,d,e⟩;exact⟨⟨a,b,c,d⟩,e⟩
theorem vg(o:be)(w:World):Calls Tryz.prog 13 #[.int .i64 1,aK o] w fun e w'=>e=.returned (.int .i64 (if gQ o then 0 else 9))/\Fr w w':=by
 obtain⟨d,z,m,q,op,y⟩:=o;have I:=tL ⟨d,z,m,q,op,y⟩;simp only at I;have A:¬(16<=d/\d<=32768/\m=0/\q=0/\op=0/\y=0)->(if gQ ⟨d,z,m,q,op,y⟩then(0:Int)else 9)=9:=fun h=>by rw [ah];rw [I];exact h
 by_cases K:d<16;· rw [A (by omega)];exact Kr d m q op y z K w
 by_cases L:32768<d;· rw [A (by omega)];exact Kq d m q op y z (by omega) L w
 by_cases D:m=0
 · by_cases F:q=0
   · by_cases G:op=0
     · by_cases J:y=0;· rw [ai (I.2 ⟨by omega,by omega,D,F,G,J⟩)];exact Kl d m q op y z (by omega) (by omega) D F G J w
       · rw [A (by omega)];exact Km d m q op y z (by omega) (by omega) D F G J w
     · rw [A (by omega)];exact Kn d m q op y z (by omega) (by omega) D F G w
   · rw [A (by omega)];exact Ko d m q op y z (by omega) (by omega) D F w
 · rw [A (by omega)];exact Kp d m q op y z (by omega) (by omega) D w
theorem vf(o:be)(w:World):Calls Tryz.prog 13 #[.int .i64 2,aK o] w fun e w'=>e=.returned (.int .i64 (if gP o then 0 else 9))/\Fr w w':=by
 obtain⟨d,z,m,q,op,y⟩:=o;have G:=tK ⟨d,z,m,q,op,y⟩;simp only at G;have A:¬(16<=d/\d<=32768/\1<=m/\m<=64/\q=0/\op=0/\y=0)->(if gP ⟨d,z,m,q,op,y⟩then(0:Int)else 9)=9:=fun h=>by rw [ah];rw [G];exact h
 by_cases J:d<16;· rw [A (by omega)];exact Kk d m q op y z J w
 by_cases K:32768<d;· rw [A (by omega)];exact Kj d m q op y z (by omega) K w
 by_cases L:m<1;· rw [A (by omega)];exact Ki d m q op y z (by omega) (by omega) L w
 by_cases M:64<m;· rw [A (by omega)];exact Kh d m q op y z (by omega) (by omega) (by omega) M w
 by_cases D:q=0
 · by_cases F:op=0
   · by_cases I:y=0;· rw [ai (G.2 ⟨by omega,by omega,by omega,by omega,D,F,I⟩)];exact Kd d m q op y z (by omega) (by omega) (by omega) (by omega) D F I w
     · rw [A (by omega)];exact Ke d m q op y z (by omega) (by omega) (by omega) (by omega) D F I w
   · rw [A (by omega)];exact Kf d m q op y z (by omega) (by omega) (by omega) (by omega) D F w
 · rw [A (by omega)];exact Kg d m q op y z (by omega) (by omega) (by omega) (by omega) D w
end Go.Proofs.YtdamnfpigajmoaaGreatDoor
