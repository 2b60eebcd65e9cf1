/- Parts of the proof of ThreeOpens: G1 G2. -/
import Derived.Test.YtijghcbpfcjjnaaGreatDoorM01
import Derived.Test.YtijghcbpfcjjnaaGreatDoorM05
import Derived.Test.YtijghcbpfcjjnaaGreatDoorM06
set_option linter.unusedVariables false
set_option linter.unusedSectionVars false
set_option linter.unusedSimpArgs false
set_option maxHeartbeats 8000000
namespace Go.Proofs.YtijghcbpfcjjnaaGreatDoor
open Go.RowKit Go.Fk
abbrev B8(n:Nat):Value:=.int .u8 (n:Int)
theorem byte_val(x:Nat)(h:x<256):Value.int .u8 (x:Int)=Fk.u8 (UInt8.ofNat x):=by
 show _=Value.int .u8 _
 rw [UInt8.toNat_ofNat']
 congr 1
 omega
theorem hi_all:allB 256 (fun a=>(a &&& 128) == (if a<128 then 0 else 128))=true:=by decide +kernel
theorem hi_and(a:Nat)(ha:a<256):bits .and .u8 (a:Int) 128=if a<128 then 0 else 128:=by
 have h:a &&& 128=if a<128 then 0 else 128:=by simpa using allB_out 256 _ hi_all a ha
 rw [show(128:Int)=((128:Nat):Int)from rfl,and_u8 a 128 ha (by omega),h]
 split <;> rfl
theorem low_all:allB 256 (fun a=>(a &&& 1) == a % 2)=true:=by decide +kernel
theorem low_and(a:Nat)(ha:a<256):bits .and .u8 (a:Int) 1=((a % 2:Nat):Int):=by
 have h:a &&& 1=a % 2:=beq_iff_eq.1 (allB_out 256 _ low_all a ha)
 rw [show(1:Int)=((1:Nat):Int)from rfl,and_u8 a 1 ha (by omega),h]
set_option maxRecDepth 100000
theorem twice_any (a : Nat) (ha : a < 256) (w : World) :
    Calls Tryz.prog 252 #[B8 a] w fun e w'=>e=.returned (B8 (twN a))/\w=w':=by
  have h1:=hi_and a ha
  by_cases h:a<128
  · rw [if_pos h]at h1
    have HT:Hid (twN a=2*a):=by show _=_;unfold twN;rw [if_pos h]
    go_enter Tryz.func252, Tryz.ntmps252
    go_wp2_with fail
    go_ret
    exact⟨by rw [HT.out];go_num,rfl⟩
  · rw [if_neg h]at h1
    have hx:bits .xor .u8 ((a:Int)*2 % 256) 29=(((2*a - 256) ^^^ 29:Nat):Int):=by
      rw [show(a:Int)*2 % 256=((2*a - 256:Nat):Int) by omega];exact xor_u8 (2*a - 256) 29 (by omega) (by omega)
    have HT:Hid (twN a=(2*a - 256) ^^^ 29):=by show _=_;unfold twN;rw [if_neg h]
    go_enter Tryz.func252, Tryz.ntmps252
    go_wp2_with fail
    go_ret
    exact⟨by rw [HT.out];go_num,rfl⟩
set_option maxRecDepth 512
theorem mulGo_done(f:Nat)(a o:Nat):mulGo f a 0 o=o:=by cases f <;> simp [mulGo]
set_option maxRecDepth 100000
theorem Mul_any(a b:Nat)(ha:a<256)(hb:b<256)(w:World) :
  Calls Tryz.prog 251 #[B8 a,B8 b] w fun e w'=>e=.returned (B8 (mulN a b))/\w=w':=by
 go_enter Tryz.func251, Tryz.ntmps251
 go_wp2_with fail
 go_loop [0,1,5] (fun av bv ov=>∃ (f x y o:Nat),av=B8 x/\bv=B8 y/\ov=B8 o/\x<256/\y<2 ^ f/\f<=8/\o<256/\Hid (mulN a b=mulGo f x y o)) (fun _ bv _=>(intOf bv).toNat)
 case atStart=>exact⟨8,a,b,0,rfl,rfl,rfl,ha,hb,Nat.le_refl _,by omega,rfl⟩
 case round=>
  obtain⟨f,x,y,o,rfl,rfl,rfl,hx,hy,hf,ho,HM⟩:=hrel
  by_cases hy0:y=0
  · subst hy0
    have HE:Hid (mulN a b=o):=by show _=_;rw [HM.out,mulGo_done]
    go_wp2_with fail
    go_ret
    exact⟨by rw [HE.out];rfl,rfl⟩
  · have hyn:((y:Int) != 0)=true:=by simp;omega
    have hy8:y<256:=Nat.lt_of_lt_of_le hy (Nat.pow_le_pow_right (by omega) hf)
    have h1:=low_and y hy8
    have hxo:=xor_u8 o x ho hx
    have hlt:=tw_lt x hx
    cases f with
    | zero=>exact absurd (by omega:y=0) hy0
    | succ f=>
     rw [Nat.pow_succ]at hy
     by_cases h2:y % 2=1
     · have HE:Hid (mulN a b=mulGo f (twN x) (y / 2) (o ^^^ x)):=by show _=_;rw [HM.out,mulGo,if_neg hy0,if_pos h2]
       have hxl:o ^^^ x<2 ^ 8:=Nat.xor_lt_two_pow ho hx
       rw [h2]at h1
       go_wp2_with fail
       refine(twice_any x hx _).mono ?_
       rintro e w1 ⟨rfl,rfl⟩
       go_wp2_with fail
       go_round
       case rel=>exact⟨f,twN x,y / 2,o ^^^ x,rfl,by go_num,rfl,hlt,by omega,by omega,hxl,HE⟩
       case measure=>simp [intOf];omega
     · have h3:y % 2=0:=by omega
       have HE:Hid (mulN a b=mulGo f (twN x) (y / 2) o):=by show _=_;rw [HM.out,mulGo,if_neg hy0,if_neg h2]
       rw [h3]at h1
       go_wp2_with fail
       refine(twice_any x hx _).mono ?_
       rintro e w1 ⟨rfl,rfl⟩
       go_wp2_with fail
       go_round
       case rel=>exact⟨f,twN x,y / 2,o,rfl,by go_num,rfl,hlt,by omega,by omega,ho,HE⟩
       case measure=>simp [intOf];omega
set_option maxRecDepth 512
theorem powGo_done(f:Nat)(a o:Nat):powGo f a 0 o=o:=by cases f <;> simp [powGo]
set_option maxRecDepth 100000
theorem Pow_any(a n:Nat)(ha:a<256)(ha0:a≠0)(hn0:n≠0)(hn:n<255)(w:World) :
  Calls Tryz.prog 215 #[B8 a,.int .u64 (n:Int)] w fun e w'=>e=.returned (B8 (powGo 8 a n 1))/\w=w':=by
 have k1:((n:Int) == 0)=false:=by simp;exact hn0
 have k2:((a:Int) == 0)=false:=by simp;exact ha0
 have k3:(n:Int) % 255=n:=by omega
 generalize hR:powGo 8 a n 1=R
 have HR:=hid hR
 clear hR
 go_enter Tryz.func215, Tryz.ntmps215
 go_wp2_with fail
 go_loop [0,1,5] (fun av bv ov=>∃ (f x y o:Nat),av=B8 x/\bv=.int .u64 (y:Int)/\ov=B8 o/\x<256/\y<2 ^ f/\f<=8/\o<256/\Hid (R=powGo f x y o)) (fun _ bv _=>(intOf bv).toNat)
 case atStart=>exact⟨8,a,n,1,rfl,by rw [k3],rfl,ha,by omega,Nat.le_refl _,by omega,HR.out.symm⟩
 case round=>
  obtain⟨f,x,y,o,rfl,rfl,rfl,hx,hy,hf,ho,HM⟩:=hrel
  clear k1 k2 k3
  by_cases hy0:y=0
  · subst hy0
    have HE:Hid (R=o):=by show _=_;rw [HM.out,powGo_done]
    go_wp2_with fail
    go_ret
    exact⟨by rw [HE.out];rfl,rfl⟩
  · have hyn:(0:Int)<y:=by omega
    have hy8:y<256:=Nat.lt_of_lt_of_le hy (Nat.pow_le_pow_right (by omega) hf)
    have h1:bits .and .u64 (y:Int) 1=((y % 2:Nat):Int):=by
     have:=bits_and_u64_nat y 1 (by omega) (by omega)
     rw [Nat.and_one_is_mod]at this
     exact this
    have hlt:=mul_lt x x hx
    have hlo:=mul_lt o x ho
    cases f with
    | zero=>exact absurd (by omega:y=0) hy0
    | succ f=>
     rw [Nat.pow_succ]at hy
     by_cases h2:y % 2=1
     · have HE:Hid (R=powGo f (mulN x x) (y / 2) (mulN o x)):=by show _=_;rw [HM.out,powGo,if_neg hy0,if_pos h2]
       rw [h2]at h1
       go_wp2_with fail
       refine(Mul_any o x ho hx _).mono ?_
       rintro e w1 ⟨rfl,rfl⟩
       go_wp2_with fail
       refine(Mul_any x x hx hx _).mono ?_
       rintro e w1 ⟨rfl,rfl⟩
       go_wp2_with fail
       go_round
       case rel=>exact⟨f,mulN x x,y / 2,mulN o x,rfl,by go_num,rfl,hlt,by omega,by omega,hlo,HE⟩
       case measure=>simp [intOf];omega
     · have h3:y % 2=0:=by omega
       have HE:Hid (R=powGo f (mulN x x) (y / 2) o):=by show _=_;rw [HM.out,powGo,if_neg hy0,if_neg h2]
       rw [h3]at h1
       go_wp2_with fail
       refine(Mul_any x x hx hx _).mono ?_
       rintro e w1 ⟨rfl,rfl⟩
       go_wp2_with fail
       go_round
       case rel=>exact⟨f,mulN x x,y / 2,o,rfl,by go_num,rfl,hlt,by omega,by omega,ho,HE⟩
       case measure=>simp [intOf];omega
set_option maxRecDepth 512
def invV(a:Nat):Value:=if a=0 then .tuple #[B8 0,.int .i64 13]else .tuple #[B8 (invN a),.int .i64 0]
set_option maxRecDepth 100000
theorem Inv_any(a:Nat)(ha:a<256)(w:World) :
  Calls Tryz.prog 178 #[B8 a] w fun e w'=>e=.returned (invV a)/\w=w':=by
 by_cases h0:a=0
 · subst h0
   go_enter Tryz.func178, Tryz.ntmps178
   go_wp2_with fail
   exact bodyPost_ret (v:=.tuple #[B8 0,.int .i64 13]) (by simp [results,Tryz.results178,go_sem, *]) rfl ⟨rfl,rfl⟩
 · have k2:((a:Int) == 0)=false:=by simp;exact h0
   have HV:Hid (invV a=.tuple #[B8 (invN a),.int .i64 0]):=by show _=_;unfold invV;rw [if_neg h0]
   have HP:Hid (∀ W,Calls Tryz.prog 215 #[B8 a,.int .u64 254] W fun e w'=>e=.returned (B8 (invN a))/\W=w'):=fun W=>Pow_any a 254 ha h0 (by omega) (by omega) W
   generalize invN a=i at *
   go_enter Tryz.func178, Tryz.ntmps178
   go_wp2_with fail
   refine(HP.out _).mono ?_
   rintro e w1 ⟨rfl,rfl⟩
   go_wp2_with fail
   exact bodyPost_ret (v:=.tuple #[B8 i,.int .i64 0]) (by simp [results,Tryz.results178,go_sem, *]) rfl ⟨by rw [HV.out],rfl⟩
set_option maxRecDepth 512
theorem bitZ(b k:Nat):((b:Int) / 2 ^ k).tmod 2=((b / 2 ^ k % 2:Nat):Int):=by
 rw [show(b:Int) / 2 ^ k=((b / 2 ^ k:Nat):Int) by simp]
 rfl
theorem shiftZ(a k:Nat)(h:a*2 ^ k<9223372036854775808):IntKind.i64.wrap ((a:Int)*2 ^ k)=((a*2 ^ k:Nat):Int):=by
 rw [show(a:Int)*2 ^ k=((a*2 ^ k:Nat):Int) by simp]
 exact wrap_i64 _ h
theorem shl_lt(a k m n:Nat)(ha:a<2 ^ m)(hk:k<=n):a*2 ^ k<2 ^ (m+n):=by
 rw [Nat.pow_add]
 have h1:2 ^ k<=2 ^ n:=Nat.pow_le_pow_right (by omega) hk
 calc a * 2 ^ k ≤ a * 2 ^ n := Nat.mul_le_mul_left _ h1
  _<2 ^ m*2 ^ n:=Nat.mul_lt_mul_of_pos_right ha (Nat.two_pow_pos n)
theorem red_bit(q f:Nat)(hq:q<2 ^ (f+1+8))(h:q / 2 ^ (f+8) % 2=1):q ^^^ (285*2 ^ f)<2 ^ (f+8):=by
 apply Nat.lt_pow_two_of_testBit
 intro j hj
 rw [Nat.testBit_xor,Nat.testBit_mul_two_pow]
 by_cases e:j=f+8
 · subst e
   have h1:q.testBit (f+8)=true:=by rw [Nat.testBit_eq_decide_div_mod_eq];simpa using h
   rw [h1,show f+8 - f=8 by omega]
   simp
   decide
 · have h1:q.testBit j=false:=Nat.testBit_lt_two_pow (Nat.lt_of_lt_of_le hq (Nat.pow_le_pow_right (by omega) (by omega)))
   have h2:Nat.testBit 285 (j - f)=false:=Nat.testBit_lt_two_pow (Nat.lt_of_lt_of_le (by decide:285<2 ^ 9) (Nat.pow_le_pow_right (by omega) (by omega)))
   rw [h1,h2];simp
theorem red_nobit(q f:Nat)(hq:q<2 ^ (f+1+8))(h:¬q / 2 ^ (f+8) % 2=1):q<2 ^ (f+8):=by
 have h1:q / 2 ^ (f+8)<2:=by
  rw [show f+1+8=(f+8)+1 by omega,Nat.pow_succ]at hq
  exact Nat.div_lt_of_lt_mul hq
 have h2:q / 2 ^ (f+8)=0:=(by omega:∀ x:Nat,x<2->¬x % 2=1->x=0) _ h1 h
 exact(Nat.div_eq_zero_iff_lt (Nat.two_pow_pos _)).1 h2
set_option maxRecDepth 100000
theorem RMul_any(a b:Nat)(ha:a<256)(hb:b<256)(w:World) :
  Calls Tryz.prog 197 #[B8 a,B8 b] w fun e w'=>e=.returned (B8 (mulN a b))/\w=w':=by
 go_enter Tryz.func197, Tryz.ntmps197
 go_wp2_with fail
 go_loop [5,7] (fun pv iv=>∃ (f p:Nat),f<=8/\iv=.int .i64 ((8 - f:Nat):Int)/\pv=.int .i64 (p:Int)/\p<32768/\Hid (polyGo a b 8 0=polyGo a b f p)) (fun _ iv=>8 - (intOf iv).toNat)
 case atStart=>exact⟨8,0,Nat.le_refl _,rfl,rfl,by omega,rfl⟩
 case round=>
  obtain⟨f,p,hf,rfl,rfl,hp,HP⟩:=hrel
  cases f with
  | zero=>
   have HQ:Hid (mulN a b=redGo 7 p):=by show _=_;rw [<- mulR_mulN a b ha];unfold mulR;rw [HP.out];rfl
   clear HP
   go_wp2_with fail
   go_loop [5,8] (fun pv iv=>∃ (f q:Nat),f<=7/\iv=.int .i64 ((f+7:Nat):Int)/\pv=.int .i64 (q:Int)/\q<2 ^ (f+8)/\Hid (mulN a b=redGo f q)) (fun _ iv=>(intOf iv).toNat)
   case atStart=>exact⟨7,p,Nat.le_refl _,rfl,rfl,hp,HQ⟩
   case round=>
    obtain⟨f,q,hf,rfl,rfl,hq,HM⟩:=hrel
    cases f with
    | zero=>
     have HE:Hid (mulN a b=q):=by show _=_;rw [HM.out];rfl
     have hq8:q<256:=hq
     have hqw:IntKind.u8.wrap (q:Int)=q:=by rw [wrap_u8];omega
     go_wp2_with fail
     go_ret
     exact⟨by rw [HE.out];rfl,rfl⟩
    | succ f=>
     have hbz:=bitZ q (f+8)
     have hq15:q<2 ^ 15:=Nat.lt_of_lt_of_le hq (Nat.pow_le_pow_right (by omega) (by omega))
     have hsl:285*2 ^ f<2 ^ 15:=by
      have:=shl_lt 285 f 9 6 (by decide) (by omega)
      exact this
     have hsz:IntKind.i64.wrap ((285:Int)*2 ^ f)=((285*2 ^ f:Nat):Int):=shiftZ 285 f (by omega)
     have HXZ:=hid (xor_i64 q (285*2 ^ f) (by omega) (by omega))
     have i1:(f:Int)+8<=14:=by omega
     have i2:(0:Int)<=f:=by omega
     have i3:(f:Int)+1+7=f+8:=by omega
     have i4:((f:Int)+8).toNat=f+8:=by omega
     have i5:(8:Int)<=(f:Int)+8:=by omega
     rw [show((f+1+7:Nat):Int)=(f:Int)+8 by omega]
     by_cases h:q / 2 ^ (f+8) % 2=1
     · have HE:Hid (mulN a b=redGo f (q ^^^ (285*2 ^ f))):=by show _=_;rw [HM.out,redGo,if_pos h]
       have hb2:=red_bit q f hq h
       rw [h]at hbz
       go_wp2_with fail
       go_round
       case rel=>exact⟨f,q ^^^ (285*2 ^ f),by omega,by go_num,by rw [show(285:Int)*2 ^ f=((285*2 ^ f:Nat):Int) by simp,HXZ.out],hb2,HE⟩
       case measure=>simp [intOf];omega
     · have h2:q / 2 ^ (f+8) % 2=0:=by omega
       have HE:Hid (mulN a b=redGo f q):=by show _=_;rw [HM.out,redGo,if_neg h]
       have hb2:=red_nobit q f hq h
       rw [h2]at hbz
       go_wp2_with fail
       go_round
       case rel=>exact⟨f,q,by omega,by go_num,rfl,hb2,HE⟩
       case measure=>simp [intOf];omega
  | succ f=>
   have e1:8 - (f+1)=7 - f:=by omega
   rw [e1]
   obtain⟨k,hk⟩:∃ k,7 - f=k:=⟨_,rfl⟩
   rw [hk]
   have k7:(k:Int)<8:=by omega
   have k0:(0:Int)<=k:=by omega
   have hbz:=bitZ b k
   have hsl:=shl_lt a k 8 7 ha (by omega)
   have hsz:=shiftZ a k (by omega)
   have hxz:=xor_i64 p (a*2 ^ k) (by omega) (by omega)
   have HXZ:=hid hxz
   clear hxz
   have hxl:p ^^^ (a*2 ^ k)<2 ^ 15:=Nat.xor_lt_two_pow hp hsl
   have hfk:8 - f=k+1:=by omega
   by_cases h:b / 2 ^ k % 2=1
   · have HE:Hid (polyGo a b 8 0=polyGo a b f (p ^^^ (a*2 ^ k))):=by show _=_;rw [HP.out,polyGo,hk,if_pos h]
     rw [h]at hbz
     clear e1 hk
     go_wp2_with fail
     go_round
     case rel=>exact⟨f,p ^^^ (a*2 ^ k),by omega,by rw [hfk];go_num,by rw [show(a:Int)*2 ^ k=((a*2 ^ k:Nat):Int) by simp,HXZ.out],hxl,HE⟩
     case measure=>simp [intOf];omega
   · have h2:b / 2 ^ k % 2=0:=by omega
     have HE:Hid (polyGo a b 8 0=polyGo a b f p):=by show _=_;rw [HP.out,polyGo,hk,if_neg h]
     rw [h2]at hbz
     clear e1 hk
     go_wp2_with fail
     go_round
     case rel=>exact⟨f,p,by omega,by rw [hfk];go_num,rfl,hp,HE⟩
     case measure=>simp [intOf];omega
theorem RInv_any(a:Nat)(ha:a<256)(w:World) :
  Calls Tryz.prog 195 #[B8 a] w fun e w'=>e=.returned (invV a)/\w=w':=by
 have HV1:Hid (∀ i,1<=i->i<256->mulN a i=1->invV a=.tuple #[B8 i,.int .i64 0]):=by
  intro i h1 h2 h3
  have h0:a≠0:=by rintro rfl;rw [nil_mul]at h3;cases h3
  unfold invV
  rw [if_neg h0,inv_one a i h0 ha h2 h3]
 go_enter Tryz.func195, Tryz.ntmps195
 go_wp2_with fail
 go_loop [4] (fun iv=>∃ i:Nat,1<=i/\i<=256/\iv=N i/\Hid (∀ j,1<=j->j<i->mulN a j≠1)) (fun iv=>256 - (intOf iv).toNat)
 case atStart=>exact⟨1,Nat.le_refl _,by omega,rfl,by intro j h1 h2;omega⟩
 case round=>
  obtain⟨i,hi1,hi2,rfl,HN⟩:=hrel
  by_cases hi:i<256
  · have hw8:IntKind.u8.wrap (i:Int)=i:=by rw [wrap_u8];omega
    have hi':(i:Int)<256:=by omega
    have HM:=hid (RMul_any a i ha hi)
    by_cases h1:mulN a i=1
    · have HE:=hid (HV1.out i hi1 hi h1)
      have HM1:=hid h1
      clear h1
      go_wp2_with fail
      refine(HM.out _).mono ?_
      rintro e w1 ⟨he,rfl⟩
      rw [HM1.out]at he
      subst he
      go_wp2_with fail
      exact bodyPost_ret (v:=.tuple #[B8 i,.int .i64 0]) (by simp [results,Tryz.results195,go_sem, *]) rfl ⟨by rw [HE.out],rfl⟩
    · have HN2:Hid (∀ j,1<=j->j<i+1->mulN a j≠1):=by
        intro j g1 g2
        by_cases e:j=i
        · subst e;exact h1
        · exact HN.out j g1 (by omega)
      have hb:((mulN a i:Int) == 1)=false:=by simp;omega
      generalize hm:mulN a i=m at *
      clear hm h1
      go_wp2_with fail
      refine(HM.out _).mono ?_
      rintro e w1 ⟨rfl,rfl⟩
      go_wp2_with fail
      go_round
      case rel=>exact⟨i+1,by omega,by omega,by go_num,HN2⟩
      case measure=>simp [intOf];omega
  · obtain rfl:i=256:=by omega
    have h0:a=0:=by
     apply Classical.byContradiction
     intro h0
     have:=inv_facts a h0 ha
     exact HN.out (invN a) (inv_ne a h0 ha) this.1 this.2.1
    subst h0
    go_wp2_with fail
    exact bodyPost_ret (v:=.tuple #[B8 0,.int .i64 13]) (by simp [results,Tryz.results195,go_sem, *]) rfl ⟨rfl,rfl⟩
set_option maxRecDepth 512
end Go.Proofs.YtijghcbpfcjjnaaGreatDoor
