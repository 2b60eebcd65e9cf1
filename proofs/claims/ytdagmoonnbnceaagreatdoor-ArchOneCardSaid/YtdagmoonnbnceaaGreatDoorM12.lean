/- Parts of the proof of ArchOne: G1 G2. -/
import Derived.Test.YtdagmoonnbnceaaGreatDoorM01
import Derived.Test.YtdagmoonnbnceaaGreatDoorM11
import Derived.Test.YtdagmoonnbnceaaGreatDoorM06
set_option linter.unusedVariables false
set_option linter.unusedSectionVars false
set_option linter.unusedSimpArgs false
set_option maxHeartbeats 8000000
set_option maxRecDepth 100000
namespace Go.Proofs.YtdagmoonnbnceaaGreatDoor
open Go.RowKit Go.Fk
abbrev B8(n:Nat):Value:=.int .u8 (n:Int)
theorem byte_val(x:Nat)(h:x<256):Value.int .u8 (x:Int)=Fk.u8 (UInt8.ofNat x):=by
 show _=Value.int .u8 _
 rw [UInt8.toNat_ofNat']
 congr 1
 omega
theorem hi_all:allB 256 (fun a=>(a &&& 128) == (if a<128 then 0 else 128))=true:=by decide +kernel
theorem hi_and(a:Nat)(ha:a<256):bits .and .u8 (a:Int) 128=if a<128 then 0 else 128:=by
 have h:a &&& 128=if a<128 then 0 else 128:=by simpa using allB_out 256 _ hi_all a ha
 rw [show(128:Int)=((128:Nat):Int)from rfl,and_u8 a 128 ha (by omega),h]
 split <;> rfl
theorem low_all:allB 256 (fun a=>(a &&& 1) == a % 2)=true:=by decide +kernel
theorem low_and(a:Nat)(ha:a<256):bits .and .u8 (a:Int) 1=((a % 2:Nat):Int):=by
 have h:a &&& 1=a % 2:=beq_iff_eq.1 (allB_out 256 _ low_all a ha)
 rw [show(1:Int)=((1:Nat):Int)from rfl,and_u8 a 1 ha (by omega),h]
theorem twice_any (a : Nat) (ha : a < 256) (w : World) :
    Calls Tryz.prog 207 #[B8 a] w fun e w'=>e=.returned (B8 (twN a))/\w=w':=by
  have h1:=hi_and a ha
  by_cases h:a<128
  · rw [if_pos h]at h1
    have HT:Hid (twN a=2*a):=by show _=_;unfold twN;rw [if_pos h]
    go_enter Tryz.func207, Tryz.ntmps207
    go_wp2_with fail
    go_ret
    exact⟨by rw [HT.out];go_num,rfl⟩
  · rw [if_neg h]at h1
    have hx:bits .xor .u8 ((a:Int)*2 % 256) 29=(((2*a - 256) ^^^ 29:Nat):Int):=by
      rw [show(a:Int)*2 % 256=((2*a - 256:Nat):Int) by omega];exact xor_u8 (2*a - 256) 29 (by omega) (by omega)
    have HT:Hid (twN a=(2*a - 256) ^^^ 29):=by show _=_;unfold twN;rw [if_neg h]
    go_enter Tryz.func207, Tryz.ntmps207
    go_wp2_with fail
    go_ret
    exact⟨by rw [HT.out];go_num,rfl⟩
theorem mulGo_done(f:Nat)(a o:Nat):mulGo f a 0 o=o:=by cases f <;> simp [mulGo]
theorem Mul_any(a b:Nat)(ha:a<256)(hb:b<256)(w:World) :
  Calls Tryz.prog 206 #[B8 a,B8 b] w fun e w'=>e=.returned (B8 (mulN a b))/\w=w':=by
 go_enter Tryz.func206, Tryz.ntmps206
 go_wp2_with fail
 go_loop [0,1,5] (fun av bv ov=>∃ (f x y o:Nat),av=B8 x/\bv=B8 y/\ov=B8 o/\x<256/\y<2 ^ f/\f<=8/\o<256/\Hid (mulN a b=mulGo f x y o)) (fun _ bv _=>(intOf bv).toNat)
 case atStart=>exact⟨8,a,b,0,rfl,rfl,rfl,ha,hb,Nat.le_refl _,by omega,rfl⟩
 case round=>
  obtain⟨f,x,y,o,rfl,rfl,rfl,hx,hy,hf,ho,HM⟩:=hrel
  by_cases hy0:y=0
  · subst hy0
    have HE:Hid (mulN a b=o):=by show _=_;rw [HM.out,mulGo_done]
    go_wp2_with fail
    go_ret
    exact⟨by rw [HE.out];rfl,rfl⟩
  · have hyn:((y:Int) != 0)=true:=by simp;omega
    have hy8:y<256:=Nat.lt_of_lt_of_le hy (Nat.pow_le_pow_right (by omega) hf)
    have h1:=low_and y hy8
    have hxo:=xor_u8 o x ho hx
    have hlt:=tw_lt x hx
    cases f with
    | zero=>exact absurd (by omega:y=0) hy0
    | succ f=>
     rw [Nat.pow_succ]at hy
     by_cases h2:y % 2=1
     · have HE:Hid (mulN a b=mulGo f (twN x) (y / 2) (o ^^^ x)):=by show _=_;rw [HM.out,mulGo,if_neg hy0,if_pos h2]
       have hxl:o ^^^ x<2 ^ 8:=Nat.xor_lt_two_pow ho hx
       rw [h2]at h1
       go_wp2_with fail
       refine(twice_any x hx _).mono ?_
       rintro e w1 ⟨rfl,rfl⟩
       go_wp2_with fail
       go_round
       case rel=>exact⟨f,twN x,y / 2,o ^^^ x,rfl,by go_num,rfl,hlt,by omega,by omega,hxl,HE⟩
       case measure=>simp [intOf];omega
     · have h3:y % 2=0:=by omega
       have HE:Hid (mulN a b=mulGo f (twN x) (y / 2) o):=by show _=_;rw [HM.out,mulGo,if_neg hy0,if_neg h2]
       rw [h3]at h1
       go_wp2_with fail
       refine(twice_any x hx _).mono ?_
       rintro e w1 ⟨rfl,rfl⟩
       go_wp2_with fail
       go_round
       case rel=>exact⟨f,twN x,y / 2,o,rfl,by go_num,rfl,hlt,by omega,by omega,ho,HE⟩
       case measure=>simp [intOf];omega
theorem powGo_done(f:Nat)(a o:Nat):powGo f a 0 o=o:=by cases f <;> simp [powGo]
theorem Pow_any(a n:Nat)(ha:a<256)(ha0:a≠0)(hn0:n≠0)(hn:n<255)(w:World) :
  Calls Tryz.prog 172 #[B8 a,.int .u64 (n:Int)] w fun e w'=>e=.returned (B8 (powGo 8 a n 1))/\w=w':=by
 have k1:((n:Int) == 0)=false:=by simp;exact hn0
 have k2:((a:Int) == 0)=false:=by simp;exact ha0
 have k3:(n:Int) % 255=n:=by omega
 generalize hR:powGo 8 a n 1=R
 have HR:=hid hR
 clear hR
 go_enter Tryz.func172, Tryz.ntmps172
 go_wp2_with fail
 go_loop [0,1,5] (fun av bv ov=>∃ (f x y o:Nat),av=B8 x/\bv=.int .u64 (y:Int)/\ov=B8 o/\x<256/\y<2 ^ f/\f<=8/\o<256/\Hid (R=powGo f x y o)) (fun _ bv _=>(intOf bv).toNat)
 case atStart=>exact⟨8,a,n,1,rfl,by rw [k3],rfl,ha,by omega,Nat.le_refl _,by omega,HR.out.symm⟩
 case round=>
  obtain⟨f,x,y,o,rfl,rfl,rfl,hx,hy,hf,ho,HM⟩:=hrel
  clear k1 k2 k3
  by_cases hy0:y=0
  · subst hy0
    have HE:Hid (R=o):=by show _=_;rw [HM.out,powGo_done]
    go_wp2_with fail
    go_ret
    exact⟨by rw [HE.out];rfl,rfl⟩
  · have hyn:(0:Int)<y:=by omega
    have hy8:y<256:=Nat.lt_of_lt_of_le hy (Nat.pow_le_pow_right (by omega) hf)
    have h1:bits .and .u64 (y:Int) 1=((y % 2:Nat):Int):=by
     have:=bits_and_u64_nat y 1 (by omega) (by omega)
     rw [Nat.and_one_is_mod]at this
     exact this
    have hlt:=mul_lt x x hx
    have hlo:=mul_lt o x ho
    cases f with
    | zero=>exact absurd (by omega:y=0) hy0
    | succ f=>
     rw [Nat.pow_succ]at hy
     by_cases h2:y % 2=1
     · have HE:Hid (R=powGo f (mulN x x) (y / 2) (mulN o x)):=by show _=_;rw [HM.out,powGo,if_neg hy0,if_pos h2]
       rw [h2]at h1
       go_wp2_with fail
       refine(Mul_any o x ho hx _).mono ?_
       rintro e w1 ⟨rfl,rfl⟩
       go_wp2_with fail
       refine(Mul_any x x hx hx _).mono ?_
       rintro e w1 ⟨rfl,rfl⟩
       go_wp2_with fail
       go_round
       case rel=>exact⟨f,mulN x x,y / 2,mulN o x,rfl,by go_num,rfl,hlt,by omega,by omega,hlo,HE⟩
       case measure=>simp [intOf];omega
     · have h3:y % 2=0:=by omega
       have HE:Hid (R=powGo f (mulN x x) (y / 2) o):=by show _=_;rw [HM.out,powGo,if_neg hy0,if_neg h2]
       rw [h3]at h1
       go_wp2_with fail
       refine(Mul_any x x hx hx _).mono ?_
       rintro e w1 ⟨rfl,rfl⟩
       go_wp2_with fail
       go_round
       case rel=>exact⟨f,mulN x x,y / 2,o,rfl,by go_num,rfl,hlt,by omega,by omega,ho,HE⟩
       case measure=>simp [intOf];omega
def invV(a:Nat):Value:=if a=0 then .tuple #[B8 0,.int .i64 13]else .tuple #[B8 (invN a),.int .i64 0]
theorem Inv_any(a:Nat)(ha:a<256)(w:World) :
  Calls Tryz.prog 133 #[B8 a] w fun e w'=>e=.returned (invV a)/\w=w':=by
 by_cases h0:a=0
 · subst h0
   go_enter Tryz.func133, Tryz.ntmps133
   go_wp2_with fail
   exact bodyPost_ret (v:=.tuple #[B8 0,.int .i64 13]) (by simp [results,Tryz.results133,go_sem, *]) rfl ⟨rfl,rfl⟩
 · have k2:((a:Int) == 0)=false:=by simp;exact h0
   have HV:Hid (invV a=.tuple #[B8 (invN a),.int .i64 0]):=by show _=_;unfold invV;rw [if_neg h0]
   have HP:Hid (∀ W,Calls Tryz.prog 172 #[B8 a,.int .u64 254] W fun e w'=>e=.returned (B8 (invN a))/\W=w'):=fun W=>Pow_any a 254 ha h0 (by omega) (by omega) W
   generalize invN a=i at *
   go_enter Tryz.func133, Tryz.ntmps133
   go_wp2_with fail
   refine(HP.out _).mono ?_
   rintro e w1 ⟨rfl,rfl⟩
   go_wp2_with fail
   exact bodyPost_ret (v:=.tuple #[B8 i,.int .i64 0]) (by simp [results,Tryz.results133,go_sem, *]) rfl ⟨by rw [HV.out],rfl⟩
end Go.Proofs.YtdagmoonnbnceaaGreatDoor
