/- Lemmas. -/
import Derived.Test.YtmcaneofjlhhmaaGreatDoorM00
import Derived.Test.YtmcaneofjlhhmaaGreatDoorM09
set_option linter.all false
set_option maxHeartbeats 8000000
namespace Go.Fk
abbrev aAQb:=@Go.IntWalk.i64_in
abbrev cW:=@Go.IntWalk.u64_in
abbrev kOQb:=@List.drop_eq_getElem_cons
abbrev qQ:=@List.drop_of_length_le
abbrev mA:=@Nat.lt_or_ge
abbrev uV:=@Nat.and_lt_two_pow
abbrev vn:=@BitVec.toNat_xor
abbrev vo:=@BitVec.toNat_and
def oy(n:Int):IntKind.u8.wrap n=n%256:=by simp[IntKind.wrap,IntKind.bits,IntKind.signed]
def zN(n:Int):IntKind.u32.wrap n=n%4294967296:=by simp[IntKind.wrap,IntKind.bits,IntKind.signed]
def fX(n a:Nat)(h:a<2^n):(BitVec.ofInt n (a:Int)).toNat=a:=by
 rw[BitVec.ofInt_natCast,BitVec.toNat_ofNat];exact m7 h
def ow(a b:Nat)(d:a<256)(e:b<256):bits .xor .u8 (a:Int) (b:Int)=((a ^^^ b:Nat):Int):=by
 have f:a ^^^ b<2^8:=ix ω ω;show IntKind.u8.wrap ((BitVec.ofInt 8 (a:Int) ^^^ BitVec.ofInt 8 (b:Int)).toNat:Int)=_;rw[vn,fX 8 a ω,fX 8 b ω,oy];omega
def E8(a b:Nat)(d:a<256)(e:b<256):bits .and .u8 (a:Int) (b:Int)=((a &&& b:Nat):Int):=by
 have f:a &&& b<2^8:=uV _ ω;show IntKind.u8.wrap ((BitVec.ofInt 8 (a:Int) &&& BitVec.ofInt 8 (b:Int)).toNat:Int)=_;rw[vo,fX 8 a ω,fX 8 b ω,oy];omega
def JJ(a b:Nat)(d:a<256)(e:b<256):bits .or .u8 (a:Int) (b:Int)=((a ||| b:Nat):Int):=by
 have f:a ||| b<2^8:=Nat.or_lt_two_pow ω ω;show IntKind.u8.wrap ((BitVec.ofInt 8 (a:Int) ||| BitVec.ofInt 8 (b:Int)).toNat:Int)=_;rw[BitVec.toNat_or,fX 8 a ω,fX 8 b ω,oy];omega
def pK(a b:Nat)(d:a<4294967296)(e:b<4294967296):bits .xor .u32 (a:Int) (b:Int)=((a ^^^ b:Nat):Int):=by
 have f:a ^^^ b<2^32:=ix ω ω;show IntKind.u32.wrap ((BitVec.ofInt 32 (a:Int) ^^^ BitVec.ofInt 32 (b:Int)).toNat:Int)=_;rw[vn,fX 32 a ω,fX 32 b ω,zN];omega
def Ox(a b:Nat)(d:a<4294967296)(e:b<4294967296):bits .and .u32 (a:Int) (b:Int)=((a &&& b:Nat):Int):=by
 have f:a &&& b<2^32:=uV _ ω;show IntKind.u32.wrap ((BitVec.ofInt 32 (a:Int) &&& BitVec.ofInt 32 (b:Int)).toNat:Int)=_;rw[vo,fX 32 a ω,fX 32 b ω,zN];omega
def dS(n:Nat)(h:n<9223372036854775808):IntKind.i64.wrap (n:Int)=n:=by
 exact aAQb _ ω
def vu(a b:Nat)(d:a<9223372036854775808)(e:b<9223372036854775808):bits .xor .i64 (a:Int) (b:Int)=((a ^^^ b:Nat):Int):=by
 have f:a ^^^ b<2^63:=ix ω ω;show IntKind.i64.wrap ((BitVec.ofInt 64 (a:Int) ^^^ BitVec.ofInt 64 (b:Int)).toNat:Int)=_;rw[vn,fX 64 a ω,fX 64 b ω,dS _ ω]
def Oy(a b:Nat)(d:a<9223372036854775808)(e:b<9223372036854775808):bits .and .i64 (a:Int) (b:Int)=((a &&& b:Nat):Int):=by
 have f:a &&& b<2^63:=uV _ ω;show IntKind.i64.wrap ((BitVec.ofInt 64 (a:Int) &&& BitVec.ofInt 64 (b:Int)).toNat:Int)=_;rw[vo,fX 64 a ω,fX 64 b ω,dS _ ω]
def zK(w X:Nat)(h:X<2^w):X ^^^ (2^w-1)=2^w-1-X:=by
 have e:=iG BitVec.toNat (BitVec.xor_allOnes (x:=BitVec.ofNat w X));rw[vn,BitVec.toNat_not,BitVec.toNat_allOnes,BitVec.toNat_ofNat,m7 h]at e;exact e
def Ch(l:U0)(i x:Nat)(h:i<l.length):fq i x (l.drop i)=if(i=9/\¬l[i].toNat=1)\/(0<i/\l[i].toNat=0)then(0,0,2)else if l[i].toNat<128 then(x+l[i].toNat%128*128^i,i+1,0)else fq (i+1) (x+l[i].toNat%128*128^i) (l.drop (i+1)):=by
 rw[kOQb h,fq]
def Ci(l:U0)(i x:Nat)(h:l.length<=i):fq i x (l.drop i)=(0,0,1):=by
 rw[qQ h,fq]
def wM(i:Nat)(h:i<=9):128^i<=9223372036854775808:=by
 have d:(128:Nat)^i<=128^9:=dn ω h;have e:(128:Nat)^9=9223372036854775808:=δ
 omega
def Ju(i:Nat):(128:Nat)^i=2^(7*i):=by rw[Nat.pow_mul]
def Cg(i c x:Nat)(m:i<=9)(D:c<256)(o:x<128^i)(F:¬(i=9/\¬c=1)):x+c%128*128^i<128^(i+1)/\x+c%128*128^i<18446744073709551616/\x<18446744073709551616/\c%128*128^i<18446744073709551616:=by
 have p:=wM i m;have G:c%128<128:=jB _ ω;have q:c%128*128^i<=127*128^i:=cY _ ω;have d:x+c%128*128^i<128^(i+1):=by rw[gE];omega
 have f:x<18446744073709551616:=ω
 rcases mA i 9 with h | h;·have I:=wM (i+1) ω;have z:x+c%128*128^i<18446744073709551616:=ω;exact⟨d,z,f,ω⟩
 ·obtain rfl:i=9:=ω;have A:c=1:=ω;subst A;have e:(128:Nat)^9=9223372036854775808:=δ;rw[e]at o p;refine⟨d,?_,f,?_⟩;·rw[e];clear d q;omega
  ·rw[e];decide
def Ou(c:Nat)(h:c<256):bits .andNot .u8 (c:Int) 128=((c%128:Nat):Int):=by
 have d:∀c:Fin 256,bits .andNot .u8 ((c:Nat):Int) 128=(((c:Nat)%128:Nat):Int):=by decide +kernel
 exact d ⟨c,h⟩
def Cs.int_num(s:Cs)(l:U0)(d:Nat):s.int l d=if(s.num l).2.er=0 then(if d<(s.num l).1 then(0,⟨s.at_,6⟩)else s.num l)else(0,(s.num l).2):=by
 unfold Cs.int Cs.num Cs.val Cs.step aE;by_cases e:s.er=0
 ·by_cases f:(bN (l.drop s.at_)).2.2=0;·by_cases h:d<(bN (l.drop s.at_)).1 <;> simp[e,f,h]
  ·simp[e,f]
 ·simp[e]
def Cs.text_int(s:Cs)(l:U0)(d:Nat)(z:s.at_<=l.length):s.text l d=if(s.int l d).2.er=0 then(if l.length<(s.int l d).2.at_+(s.int l d).1 then([],⟨s.at_,1⟩)else((l.drop (s.int l d).2.at_).take (s.int l d).1,⟨(s.int l d).2.at_+(s.int l d).1,0⟩))else([],(s.int l d).2):=by
 unfold Cs.text Cs.int Cs.val Cs.step fy;by_cases e:s.er=0
 ·by_cases m:(aE d (l.drop s.at_)).2.2=0
  ·have q:(l.drop s.at_).length=l.length-s.at_:=bn ..;have p:(l.drop s.at_).length<(aE d (l.drop s.at_)).2.1+(aE d (l.drop s.at_)).1↔l.length<s.at_+(aE d (l.drop s.at_)).2.1+(aE d (l.drop s.at_)).1:=(by rw[q];omega);by_cases f:(l.drop s.at_).length<(aE d (l.drop s.at_)).2.1+(aE d (l.drop s.at_)).1;·have o:=p.1 f;simp only[e,m,and_self,jh,an f,an o];simp
   ·have o:¬l.length<s.at_+(aE d (l.drop s.at_)).2.1+(aE d (l.drop s.at_)).1:=λh=>f (p.2 h);simp only[e,m,and_self,jh,ae f,ae o];simp[qJ]
  ·simp[e,m]
 ·simp[e]
def Ew(l:U0)(i:Nat)(h:i / 8<l.length):cA l i=l[i / 8].toNat / 2^(7-i%8)%2:=by
 unfold cA;rw[fx,cQ h];rfl
def Ev(l:U0)(i:Nat)(h:8*l.length<=i):cA l i=0:=by
 unfold cA;rw[fx,jH ω];simp
def E9(x:Nat)(h:x<18446744073709551616):bits .and .u64 (x:Int) 1=((x%2:Nat):Int):=by
 have d:x &&& 1<2^64:=uV _ ω;show IntKind.u64.wrap ((BitVec.ofInt 64 (x:Int) &&& BitVec.ofInt 64 ((1:Nat):Int)).toNat:Int)=_;rw[vo,fX 64 x ω,fX 64 1 ω,cW _ ω,Nat.and_one_is_mod]
def JO(x b:Nat)(d:b<2):2*x ||| b=2*x+b:=by
 have:=Nat.two_pow_add_eq_or_of_lt (i:=1) (by omega:b<2^1) x;rw[<- this]
def Ja(l:U0)(i:Nat)(h:i<8*l.length):(aZ l).take (i+1)=(aZ l).take i++[UInt8.ofNat (cA l i)]:=by
 rw[ea (by rw[kT];exact h),B7]
