/- Parts of the proof of ArchOne: Bits SpecJj SpecJk. -/
import Derived.Laws.Bits64b
import Derived.Test.YtdagmoonnbnceaaGreatDoorM00
import Derived.Test.YtdagmoonnbnceaaGreatDoorM31
set_option linter.unusedVariables false
set_option linter.unusedSectionVars false
set_option linter.unusedSimpArgs false
set_option maxHeartbeats 8000000
namespace Go.Fk
theorem wrap_u8(n:Int):IntKind.u8.wrap n=n % 256:=by simp [IntKind.wrap,IntKind.bits,IntKind.signed]
theorem wrap_u32(n:Int):IntKind.u32.wrap n=n % 4294967296:=by simp [IntKind.wrap,IntKind.bits,IntKind.signed]
theorem of_int(n a:Nat)(h:a<2 ^ n):(BitVec.ofInt n (a:Int)).toNat=a:=by
 rw [BitVec.ofInt_natCast,BitVec.toNat_ofNat];exact Nat.mod_eq_of_lt h
theorem xor_u8(a b:Nat)(ha:a<256)(hb:b<256):bits .xor .u8 (a:Int) (b:Int)=((a ^^^ b:Nat):Int):=by
 have hx:a ^^^ b<2 ^ 8:=Nat.xor_lt_two_pow (by omega) (by omega)
 show IntKind.u8.wrap ((BitVec.ofInt 8 (a:Int) ^^^ BitVec.ofInt 8 (b:Int)).toNat:Int)=_
 rw [BitVec.toNat_xor,of_int 8 a (by omega),of_int 8 b (by omega),wrap_u8]
 omega
theorem and_u8(a b:Nat)(ha:a<256)(hb:b<256):bits .and .u8 (a:Int) (b:Int)=((a &&& b:Nat):Int):=by
 have hx:a &&& b<2 ^ 8:=Nat.and_lt_two_pow _ (by omega)
 show IntKind.u8.wrap ((BitVec.ofInt 8 (a:Int) &&& BitVec.ofInt 8 (b:Int)).toNat:Int)=_
 rw [BitVec.toNat_and,of_int 8 a (by omega),of_int 8 b (by omega),wrap_u8]
 omega
theorem or_u8(a b:Nat)(ha:a<256)(hb:b<256):bits .or .u8 (a:Int) (b:Int)=((a ||| b:Nat):Int):=by
 have hx:a ||| b<2 ^ 8:=Nat.or_lt_two_pow (by omega) (by omega)
 show IntKind.u8.wrap ((BitVec.ofInt 8 (a:Int) ||| BitVec.ofInt 8 (b:Int)).toNat:Int)=_
 rw [BitVec.toNat_or,of_int 8 a (by omega),of_int 8 b (by omega),wrap_u8]
 omega
theorem xor_u32(a b:Nat)(ha:a<4294967296)(hb:b<4294967296):bits .xor .u32 (a:Int) (b:Int)=((a ^^^ b:Nat):Int):=by
 have hx:a ^^^ b<2 ^ 32:=Nat.xor_lt_two_pow (by omega) (by omega)
 show IntKind.u32.wrap ((BitVec.ofInt 32 (a:Int) ^^^ BitVec.ofInt 32 (b:Int)).toNat:Int)=_
 rw [BitVec.toNat_xor,of_int 32 a (by omega),of_int 32 b (by omega),wrap_u32]
 omega
theorem and_u32(a b:Nat)(ha:a<4294967296)(hb:b<4294967296):bits .and .u32 (a:Int) (b:Int)=((a &&& b:Nat):Int):=by
 have hx:a &&& b<2 ^ 32:=Nat.and_lt_two_pow _ (by omega)
 show IntKind.u32.wrap ((BitVec.ofInt 32 (a:Int) &&& BitVec.ofInt 32 (b:Int)).toNat:Int)=_
 rw [BitVec.toNat_and,of_int 32 a (by omega),of_int 32 b (by omega),wrap_u32]
 omega
theorem wrap_i64(n:Nat)(h:n<9223372036854775808):IntKind.i64.wrap (n:Int)=n:=by
 exact IntWalk.i64_in _ (by omega)
theorem xor_i64(a b:Nat)(ha:a<9223372036854775808)(hb:b<9223372036854775808):bits .xor .i64 (a:Int) (b:Int)=((a ^^^ b:Nat):Int):=by
 have hx:a ^^^ b<2 ^ 63:=Nat.xor_lt_two_pow (by omega) (by omega)
 show IntKind.i64.wrap ((BitVec.ofInt 64 (a:Int) ^^^ BitVec.ofInt 64 (b:Int)).toNat:Int)=_
 rw [BitVec.toNat_xor,of_int 64 a (by omega),of_int 64 b (by omega),wrap_i64 _ (by omega)]
theorem and_i64(a b:Nat)(ha:a<9223372036854775808)(hb:b<9223372036854775808):bits .and .i64 (a:Int) (b:Int)=((a &&& b:Nat):Int):=by
 have hx:a &&& b<2 ^ 63:=Nat.and_lt_two_pow _ (by omega)
 show IntKind.i64.wrap ((BitVec.ofInt 64 (a:Int) &&& BitVec.ofInt 64 (b:Int)).toNat:Int)=_
 rw [BitVec.toNat_and,of_int 64 a (by omega),of_int 64 b (by omega),wrap_i64 _ (by omega)]
theorem xor_ones(w X:Nat)(h:X<2 ^ w):X ^^^ (2 ^ w - 1)=2 ^ w - 1 - X:=by
 have e:=congrArg BitVec.toNat (BitVec.xor_allOnes (x:=BitVec.ofNat w X))
 rw [BitVec.toNat_xor,BitVec.toNat_not,BitVec.toNat_allOnes,BitVec.toNat_ofNat,Nat.mod_eq_of_lt h]at e
 exact e
theorem numGo_step(l:List UInt8)(i x:Nat)(h:i<l.length):numGo i x (l.drop i)=if(i=9/\¬l[i].toNat=1)\/(0<i/\l[i].toNat=0)then(0,0,2)else if l[i].toNat<128 then(x+l[i].toNat % 128*128 ^ i,i+1,0)else numGo (i+1) (x+l[i].toNat % 128*128 ^ i) (l.drop (i+1)):=by
 rw [List.drop_eq_getElem_cons h,numGo]
theorem numGo_end(l:List UInt8)(i x:Nat)(h:l.length<=i):numGo i x (l.drop i)=(0,0,1):=by
 rw [List.drop_of_length_le h,numGo]
theorem pow128(i:Nat)(h:i<=9):128 ^ i<=9223372036854775808:=by
 have h2:(128:Nat) ^ i<=128 ^ 9:=Nat.pow_le_pow_right (by omega) h
 have e9:(128:Nat) ^ 9=9223372036854775808:=by decide
 omega
theorem pow128_two(i:Nat):(128:Nat) ^ i=2 ^ (7*i):=by rw [Nat.pow_mul]
theorem num_next(i c x:Nat)(hi:i<=9)(hc:c<256)(hx:x<128 ^ i)(h9:¬(i=9/\¬c=1)):x+c % 128*128 ^ i<128 ^ (i+1)/\x+c % 128*128 ^ i<18446744073709551616/\x<18446744073709551616/\c % 128*128 ^ i<18446744073709551616:=by
 have hp:=pow128 i hi
 have hm:c % 128<128:=Nat.mod_lt _ (by omega)
 have h1:c % 128*128 ^ i<=127*128 ^ i:=Nat.mul_le_mul_right _ (by omega)
 have h2:x+c % 128*128 ^ i<128 ^ (i+1):=by rw [Nat.pow_succ];omega
 have h0:x<18446744073709551616:=by omega
 rcases Nat.lt_or_ge i 9 with h | h
 · have h3:=pow128 (i+1) (by omega)
   have h4:x+c % 128*128 ^ i<18446744073709551616:=by omega
   exact⟨h2,h4,h0,by omega⟩
 · obtain rfl:i=9:=by omega
   have hc1:c=1:=by omega
   subst hc1
   have e9:(128:Nat) ^ 9=9223372036854775808:=by decide
   rw [e9]at hx hp
   refine⟨h2,?_,h0,?_⟩
   · rw [e9];clear h2 h1;omega
   · rw [e9];decide
theorem andnot_u8(c:Nat)(h:c<256):bits .andNot .u8 (c:Int) 128=((c % 128:Nat):Int):=by
  have h2:∀ c:Fin 256,bits .andNot .u8 ((c:Nat):Int) 128=(((c:Nat) % 128:Nat):Int):=by decide +kernel
  exact h2 ⟨c,h⟩
theorem and1_u64(x:Nat)(h:x<18446744073709551616):bits .and .u64 (x:Int) 1=((x % 2:Nat):Int):=by
 have hx:x &&& 1<2 ^ 64:=Nat.and_lt_two_pow _ (by omega)
 show IntKind.u64.wrap ((BitVec.ofInt 64 (x:Int) &&& BitVec.ofInt 64 ((1:Nat):Int)).toNat:Int)=_
 rw [BitVec.toNat_and,of_int 64 x (by omega),of_int 64 1 (by omega),IntWalk.u64_in _ (by omega),Nat.and_one_is_mod]
end Go.Fk
