/- Parts of the proof of ArchPacks: Bits SpecJj SpecJk. -/
import Derived.Laws.Bits64b
import Derived.Test.YtdamnfpigajmoaaGreatDoorM00
import Derived.Test.YtdamnfpigajmoaaGreatDoorM07
set_option linter.unusedVariables false
set_option linter.unusedSectionVars false
set_option linter.unusedSimpArgs false
set_option maxHeartbeats 8000000
namespace Go.Fk
abbrev arQb:=@Go.IntWalk.i64_in
abbrev aX:=@Go.IntWalk.u64_in
abbrev se:=@BitVec.toNat_and
end Go.Fk
namespace Go.Fk
theorem km(n:Int):IntKind.u8.wrap n=n % 256:=by simp [IntKind.wrap,IntKind.bits,IntKind.signed]
theorem wu(n:Int):IntKind.u32.wrap n=n % 4294967296:=by simp [IntKind.wrap,IntKind.bits,IntKind.signed]
theorem fC(n a:Nat)(h:a<2 ^ n):(BitVec.ofInt n (a:Int)).toNat=a:=by
 rw [BitVec.ofInt_natCast,BitVec.toNat_ofNat];exact pN h
theorem mT(a b:Nat)(d:a<256)(e:b<256):bits .xor .u8 (a:Int) (b:Int)=((a ^^^ b:Nat):Int):=by
 have h:a ^^^ b<2 ^ 8:=iw (by omega) (by omega);show IntKind.u8.wrap ((BitVec.ofInt 8 (a:Int) ^^^ BitVec.ofInt 8 (b:Int)).toNat:Int)=_;rw [BitVec.toNat_xor,fC 8 a (by omega),fC 8 b (by omega),km];omega
theorem A8(a b:Nat)(d:a<256)(e:b<256):bits .and .u8 (a:Int) (b:Int)=((a &&& b:Nat):Int):=by
 have h:a &&& b<2 ^ 8:=Nat.and_lt_two_pow _ (by omega);show IntKind.u8.wrap ((BitVec.ofInt 8 (a:Int) &&& BitVec.ofInt 8 (b:Int)).toNat:Int)=_;rw [se,fC 8 a (by omega),fC 8 b (by omega),km];omega
theorem yx(a b:Nat)(d:a<256)(e:b<256):bits .or .u8 (a:Int) (b:Int)=((a ||| b:Nat):Int):=by
 have h:a ||| b<2 ^ 8:=Nat.or_lt_two_pow (by omega) (by omega);show IntKind.u8.wrap ((BitVec.ofInt 8 (a:Int) ||| BitVec.ofInt 8 (b:Int)).toNat:Int)=_;rw [BitVec.toNat_or,fC 8 a (by omega),fC 8 b (by omega),km];omega
theorem mU(a b:Nat)(d:a<4294967296)(e:b<4294967296):bits .xor .u32 (a:Int) (b:Int)=((a ^^^ b:Nat):Int):=by
 have h:a ^^^ b<2 ^ 32:=iw (by omega) (by omega);show IntKind.u32.wrap ((BitVec.ofInt 32 (a:Int) ^^^ BitVec.ofInt 32 (b:Int)).toNat:Int)=_;rw [BitVec.toNat_xor,fC 32 a (by omega),fC 32 b (by omega),wu];omega
theorem IP(a b:Nat)(d:a<4294967296)(e:b<4294967296):bits .and .u32 (a:Int) (b:Int)=((a &&& b:Nat):Int):=by
 have h:a &&& b<2 ^ 32:=Nat.and_lt_two_pow _ (by omega);show IntKind.u32.wrap ((BitVec.ofInt 32 (a:Int) &&& BitVec.ofInt 32 (b:Int)).toNat:Int)=_;rw [se,fC 32 a (by omega),fC 32 b (by omega),wu];omega
theorem mV(n:Nat)(h:n<9223372036854775808):IntKind.i64.wrap (n:Int)=n:=by
 exact arQb _ (by omega)
theorem sj(a b:Nat)(d:a<9223372036854775808)(e:b<9223372036854775808):bits .xor .i64 (a:Int) (b:Int)=((a ^^^ b:Nat):Int):=by
 have h:a ^^^ b<2 ^ 63:=iw (by omega) (by omega);show IntKind.i64.wrap ((BitVec.ofInt 64 (a:Int) ^^^ BitVec.ofInt 64 (b:Int)).toNat:Int)=_;rw [BitVec.toNat_xor,fC 64 a (by omega),fC 64 b (by omega),mV _ (by omega)]
theorem IQ(a b:Nat)(d:a<9223372036854775808)(e:b<9223372036854775808):bits .and .i64 (a:Int) (b:Int)=((a &&& b:Nat):Int):=by
 have h:a &&& b<2 ^ 63:=Nat.and_lt_two_pow _ (by omega);show IntKind.i64.wrap ((BitVec.ofInt 64 (a:Int) &&& BitVec.ofInt 64 (b:Int)).toNat:Int)=_;rw [se,fC 64 a (by omega),fC 64 b (by omega),mV _ (by omega)]
theorem wk(w X:Nat)(h:X<2 ^ w):X ^^^ (2 ^ w - 1)=2 ^ w - 1 - X:=by
 have e:=fX BitVec.toNat (BitVec.xor_allOnes (x:=BitVec.ofNat w X));rw [BitVec.toNat_xor,BitVec.toNat_not,BitVec.toNat_allOnes,BitVec.toNat_ofNat,pN h]at e;exact e
theorem Fi(l:List UInt8)(i x:Nat)(h:i<l.length):eL i x (l.drop i)=if(i=9/\¬l[i].toNat=1)\/(0<i/\l[i].toNat=0)then(0,0,2)else if l[i].toNat<128 then(x+l[i].toNat % 128*128 ^ i,i+1,0)else eL (i+1) (x+l[i].toNat % 128*128 ^ i) (l.drop (i+1)):=by
 rw [cM h,eL]
theorem Fj(l:List UInt8)(i x:Nat)(h:l.length<=i):eL i x (l.drop i)=(0,0,1):=by
 rw [pU h,eL]
theorem ym(i:Nat)(h:i<=9):128 ^ i<=9223372036854775808:=by
 have d:(128:Nat) ^ i<=128 ^ 9:=eC (by omega) h;have e:(128:Nat) ^ 9=9223372036854775808:=by decide
 omega
theorem E6(i:Nat):(128:Nat) ^ i=2 ^ (7*i):=by rw [Nat.pow_mul]
theorem Fh(i c x:Nat)(o:i<=9)(F:c<256)(q:x<128 ^ i)(G:¬(i=9/\¬c=1)):x+c % 128*128 ^ i<128 ^ (i+1)/\x+c % 128*128 ^ i<18446744073709551616/\x<18446744073709551616/\c % 128*128 ^ i<18446744073709551616:=by
 have y:=ym i o;have I:c % 128<128:=jM _ (by omega);have z:c % 128*128 ^ i<=127*128 ^ i:=cW _ (by omega);have d:x+c % 128*128 ^ i<128 ^ (i+1):=by rw [eA];omega
 have m:x<18446744073709551616:=by omega
 rcases Nat.lt_or_ge i 9 with h | h;· have J:=ym (i+1) (by omega);have A:x+c % 128*128 ^ i<18446744073709551616:=(by omega);exact⟨d,A,m,by omega⟩
 · obtain rfl:i=9:=(by omega);have D:c=1:=(by omega);subst D;have e:(128:Nat) ^ 9=9223372036854775808:=(by decide);rw [e]at q y;refine⟨d,?_,m,?_⟩;· rw [e];clear d z;omega
   · rw [e];decide
theorem IN(c:Nat)(h:c<256):bits .andNot .u8 (c:Int) 128=((c % 128:Nat):Int):=by
  have d:∀ c:Fin 256,bits .andNot .u8 ((c:Nat):Int) 128=(((c:Nat) % 128:Nat):Int):=(by decide +kernel);exact d ⟨c,h⟩
theorem A9(x:Nat)(h:x<18446744073709551616):bits .and .u64 (x:Int) 1=((x % 2:Nat):Int):=by
 have d:x &&& 1<2 ^ 64:=Nat.and_lt_two_pow _ (by omega);show IntKind.u64.wrap ((BitVec.ofInt 64 (x:Int) &&& BitVec.ofInt 64 ((1:Nat):Int)).toNat:Int)=_;rw [se,fC 64 x (by omega),fC 64 1 (by omega),aX _ (by omega),Nat.and_one_is_mod]
end Go.Fk
