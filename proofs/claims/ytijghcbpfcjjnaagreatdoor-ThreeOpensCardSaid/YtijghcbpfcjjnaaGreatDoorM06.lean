/- Parts of the proof of ThreeOpens: SpecG SpecN SpecC SpecR SpecT SpecX SpecLe SpecJ SpecJ2 SpecZ SpecK SpecW SpecH SpecK2 SpecY SpecY2 SpecQ SpecF. -/
set_option linter.unusedVariables false
set_option linter.unusedSectionVars false
set_option linter.unusedSimpArgs false
set_option maxHeartbeats 8000000
namespace Go.Fk
def twN(a:Nat):Nat:=if a<128 then 2*a else(2*a - 256) ^^^ 29
def mulGo:Nat->Nat->Nat->Nat->Nat
 | 0,_,_,o=>o
 | f+1,a,b,o=>if b=0 then o else mulGo f (twN a) (b / 2) (if b % 2=1 then o ^^^ a else o)
def mulN(a b:Nat):Nat:=mulGo 8 a b 0
def polyGo(a b:Nat):Nat->Nat->Nat
 | 0,p=>p
 | f+1,p=>polyGo a b f (if b / 2 ^ (7 - f) % 2=1 then p ^^^ (a*2 ^ (7 - f))else p)
def redGo:Nat->Nat->Nat
 | 0,p=>p
 | f+1,p=>redGo f (if p / 2 ^ (f+8) % 2=1 then p ^^^ (285*2 ^ f)else p)
def mulR(a b:Nat):Nat:=redGo 7 (polyGo a b 8 0)
def powGo:Nat->Nat->Nat->Nat->Nat
 | 0,_,_,o=>o
 | f+1,a,n,o=>if n=0 then o else powGo f (mulN a a) (n / 2) (if n % 2=1 then mulN o a else o)
def invN(a:Nat):Nat:=powGo 8 a 254 1
def allB(n:Nat)(p:Nat->Bool):Bool:=
 match n with
 | 0=>true
 | n+1=>p n && allB n p
theorem allB_out(n:Nat)(p:Nat->Bool)(h:allB n p=true):∀ i,i<n->p i=true:=by
 induction n with
 | zero=>intro i hi;omega
 | succ n ih=>
  rw [allB,Bool.and_eq_true]at h
  intro i hi
  by_cases e:i=n
  · subst e;exact h.1
  · exact ih h.2 i (by omega)
def sumG:Nat->Nat->Nat->Nat
 | 0,_,_=>0
 | f+1,a,b=>(if b % 2=1 then a else 0) ^^^ sumG f (twN a) (b / 2)
theorem sumG_zero(f:Nat):∀ a,sumG f a 0=0:=by
 induction f with
 | zero=>intro a;rfl
 | succ f ih=>intro a;simp [sumG,ih]
theorem mulGo_sum(f:Nat):∀ a b o,mulGo f a b o=o ^^^ sumG f a b:=by
 induction f with
 | zero=>intro a b o;simp [mulGo,sumG]
 | succ f ih=>
  intro a b o
  rw [mulGo,sumG]
  by_cases h:b=0
  · subst h;simp [sumG_zero]
  · rw [if_neg h,ih]
    by_cases h2:b % 2=1
    · simp [h2,Nat.xor_assoc]
    · simp [h2]
theorem mulN_sum(a b:Nat):mulN a b=sumG 8 a b:=by unfold mulN;rw [mulGo_sum];simp
theorem bit_xor(p q k:Nat):((p ^^^ q) / 2 ^ k % 2=1)↔¬((p / 2 ^ k % 2=1)↔(q / 2 ^ k % 2=1)):=by
 have h:=Nat.testBit_xor p q k
 rw [Nat.testBit_eq_decide_div_mod_eq,Nat.testBit_eq_decide_div_mod_eq,Nat.testBit_eq_decide_div_mod_eq]at h
 by_cases h1:p / 2 ^ k % 2=1 <;> by_cases h2:q / 2 ^ k % 2=1 <;> simp [h1,h2]at h ⊢ <;> exact h
theorem xor_cross(a b c d:Nat):(a ^^^ b) ^^^ (c ^^^ d)=(a ^^^ c) ^^^ (b ^^^ d):=by
 rw [Nat.xor_assoc,<- Nat.xor_assoc b c d,Nat.xor_comm b c,Nat.xor_assoc c b d,<- Nat.xor_assoc]
theorem if_xor(p q k c:Nat):(if(p ^^^ q) / 2 ^ k % 2=1 then(p ^^^ q) ^^^ c else p ^^^ q)=(if p / 2 ^ k % 2=1 then p ^^^ c else p) ^^^ (if q / 2 ^ k % 2=1 then q ^^^ c else q):=by
 have h:=bit_xor p q k
 by_cases h1:p / 2 ^ k % 2=1 <;> by_cases h2:q / 2 ^ k % 2=1
 · rw [if_neg (by rw [h];simp [h1,h2]),if_pos h1,if_pos h2,xor_cross,Nat.xor_self,Nat.xor_zero]
 · rw [if_pos (by rw [h];simp [h1,h2]),if_pos h1,if_neg h2,Nat.xor_assoc,Nat.xor_assoc,Nat.xor_comm q c]
 · rw [if_pos (by rw [h];simp [h1,h2]),if_neg h1,if_pos h2,Nat.xor_assoc]
 · rw [if_neg (by rw [h];simp [h1,h2]),if_neg h1,if_neg h2]
theorem red_xor(f:Nat):∀ p q,redGo f (p ^^^ q)=redGo f p ^^^ redGo f q:=by
 induction f with
 | zero=>intro p q;rfl
 | succ f ih=>intro p q;rw [redGo,redGo,redGo,if_xor,ih]
theorem red_zero(f:Nat):redGo f 0=0:=by
 induction f with
 | zero=>rfl
 | succ f ih=>rw [redGo];simp [ih]
def twI:Nat->Nat->Nat
 | 0,a=>a
 | n+1,a=>twI n (twN a)
theorem red_all:allB 256 (fun a=>allB 8 fun i=>redGo 7 (a*2 ^ i) == twI i a && decide (twI i a<256))=true:=by decide +kernel
theorem red_tw(a i:Nat)(ha:a<256)(hi:i<8):redGo 7 (a*2 ^ i)=twI i a/\twI i a<256:=by
 have:=allB_out 8 _ (allB_out 256 _ red_all a ha) i hi
 simpa using this
theorem red_if(c:Prop)[Decidable c](p x:Nat):redGo 7 (if c then p ^^^ x else p)=redGo 7 p ^^^ (if c then redGo 7 x else 0):=by
 by_cases h:c
 · simp [h,red_xor]
 · simp [h]
theorem poly_red(a b:Nat)(ha:a<256):∀ (f:Nat),f<=8->∀ p,redGo 7 (polyGo a b f p)=redGo 7 p ^^^ sumG f (twI (8 - f) a) (b / 2 ^ (8 - f)):=by
 intro f
 induction f with
 | zero=>intro _ p;simp [polyGo,sumG]
 | succ f ih=>
  intro hf p
  rw [polyGo,ih (by omega),red_if,(red_tw a (7 - f) ha (by omega)).1,sumG]
  have e1:8 - (f+1)=7 - f:=by omega
  have e2:8 - f=(7 - f)+1:=by omega
  have e3:∀ n a,twI (n+1) a=twN (twI n a):=by
   intro n
   induction n with
   | zero=>intro a;rfl
   | succ n ihn=>intro a;rw [twI,ihn,twI]
  rw [e1,e2,e3,Nat.pow_succ,Nat.div_div_eq_div_mul,Nat.xor_assoc]
theorem mulR_mulN(a b:Nat)(ha:a<256):mulR a b=mulN a b:=by
 have:=poly_red a b ha 8 (Nat.le_refl _) 0
 unfold mulR
 rw [this,red_zero,mulN_sum]
 simp [twI]
theorem tw_all:allB 256 (fun a=>decide (twN a<256))=true:=by decide +kernel
theorem tw_lt(a:Nat)(ha:a<256):twN a<256:=by have:=allB_out 256 _ tw_all a ha;simpa using this
theorem sum_lt(f:Nat):∀ a b,a<256->sumG f a b<256:=by
 induction f with
 | zero=>intro a b _;simp [sumG]
 | succ f ih=>
  intro a b ha
  rw [sumG]
  have h1:(if b % 2=1 then a else 0)<2 ^ 8:=by split <;> omega
  have h2:sumG f (twN a) (b / 2)<2 ^ 8:=ih _ _ (tw_lt a ha)
  exact Nat.xor_lt_two_pow h1 h2
theorem mul_lt(a b:Nat)(ha:a<256):mulN a b<256:=by rw [mulN_sum];exact sum_lt 8 a b ha
theorem sum_xor(f:Nat):∀ a b c,sumG f a (b ^^^ c)=sumG f a b ^^^ sumG f a c:=by
 induction f with
 | zero=>intro a b c;simp [sumG]
 | succ f ih=>
  intro a b c
  rw [sumG,sumG,sumG,Nat.xor_div_two,ih,xor_cross]
  congr 1
  have h:=bit_xor b c 0
  simp only [Nat.pow_zero,Nat.div_one]at h
  by_cases h1:b % 2=1 <;> by_cases h2:c % 2=1
  · rw [if_neg (by rw [h];simp [h1,h2]),if_pos h1,if_pos h2,Nat.xor_self]
  · rw [if_pos (by rw [h];simp [h1,h2]),if_pos h1,if_neg h2,Nat.xor_zero]
  · rw [if_pos (by rw [h];simp [h1,h2]),if_neg h1,if_pos h2,Nat.zero_xor]
  · rw [if_neg (by rw [h];simp [h1,h2]),if_neg h1,if_neg h2,Nat.xor_zero]
theorem mul_xor(a b c:Nat):mulN a (b ^^^ c)=mulN a b ^^^ mulN a c:=by rw [mulN_sum,mulN_sum,mulN_sum,sum_xor]
theorem tw_red(a:Nat)(ha:a<256):twN a=redGo 7 (a*2):=(red_tw a 1 ha (by omega)).1.symm
theorem tw_xor(p q:Nat)(hp:p<256)(hq:q<256):twN (p ^^^ q)=twN p ^^^ twN q:=by
 have hx:p ^^^ q<2 ^ 8:=Nat.xor_lt_two_pow hp hq
 rw [tw_red _ hx,tw_red p hp,tw_red q hq,<- red_xor]
 congr 1
 have:=Nat.shiftLeft_xor_distrib (a:=p) (b:=q) (i:=1)
 simpa [Nat.shiftLeft_eq] using this
theorem sum_tw(f:Nat):∀ a b,a<256->sumG f (twN a) b=twN (sumG f a b):=by
 induction f with
 | zero=>intro a b _;rfl
 | succ f ih=>
  intro a b ha
  have h1:(if b % 2=1 then a else 0)<256:=by split <;> omega
  rw [sumG,sumG,tw_xor _ _ h1 (sum_lt f _ _ (tw_lt a ha)),ih _ _ (tw_lt a ha)]
  congr 1
  split <;> rfl
theorem sum_short(f:Nat):∀ a c,c<2 ^ f->sumG (f+1) a c=sumG f a c:=by
 induction f with
 | zero => intro a c h; have : c = 0 := by omega
           subst this;simp [sumG]
 | succ f ih=>
  intro a c h
  have e:=ih (twN a) (c / 2) (by rw [Nat.pow_succ]at h;omega)
  show(if c % 2=1 then a else 0) ^^^ sumG (f+1) (twN a) (c / 2)=(if c % 2=1 then a else 0) ^^^ sumG f (twN a) (c / 2)
  rw [e]
theorem mul_half(a b:Nat)(ha:a<256)(hb:b<256):mulN a b=twN (mulN a (b / 2)) ^^^ (if b % 2=1 then a else 0):=by
 rw [mulN_sum,mulN_sum,sum_short 7 a (b / 2) (by omega),sumG,sum_tw 7 a _ ha,Nat.xor_comm]
theorem inv_all:allB 256 (fun a=>a == 0 || (decide (invN a<256) && mulN a (invN a) == 1 && allB 8 fun k=>mulN (invN a) (mulN a (2 ^ k)) == 2 ^ k))=true:=by decide +kernel
theorem inv_facts(a:Nat)(h0:a≠0)(ha:a<256):invN a<256/\mulN a (invN a)=1/\∀ k,k<8->mulN (invN a) (mulN a (2 ^ k))=2 ^ k:=by
 have:=allB_out 256 _ inv_all a ha
 simp only [Bool.or_eq_true,Bool.and_eq_true,beq_iff_eq,decide_eq_true_eq]at this
 rcases this with h | ⟨⟨h1,h2⟩,h3⟩
 · exact absurd h h0
 · exact⟨h1,h2,fun k hk=>by simpa using allB_out 8 _ h3 k hk⟩
def bitAt(i k:Nat):Nat:=if i / 2 ^ k % 2=1 then 2 ^ k else 0
def bits8(i:Nat):Nat:=bitAt i 0 ^^^ (bitAt i 1 ^^^ (bitAt i 2 ^^^ (bitAt i 3 ^^^ (bitAt i 4 ^^^ (bitAt i 5 ^^^ (bitAt i 6 ^^^ bitAt i 7))))))
theorem bits_all:allB 256 (fun i=>bits8 i == i)=true:=by decide +kernel
theorem lin_id(f:Nat->Nat)(hx:∀ p q,f (p ^^^ q)=f p ^^^ f q)(h0:f 0=0)(hk:∀ k,k<8->f (2 ^ k)=2 ^ k)(i:Nat)(hi:i<256):f i=i:=by
 have e:bits8 i=i:=by simpa using allB_out 256 _ bits_all i hi
 have hb:∀ k,k<8->f (bitAt i k)=bitAt i k:=by
  intro k h
  unfold bitAt
  split
  · exact hk k h
  · exact h0
 have:f (bits8 i)=bits8 i:=by
  unfold bits8
  simp only [hx,hb 0 (by omega),hb 1 (by omega),hb 2 (by omega),hb 3 (by omega),hb 4 (by omega),hb 5 (by omega),hb 6 (by omega),hb 7 (by omega)]
 rwa [e]at this
theorem inv_one(a i:Nat)(h0:a≠0)(ha:a<256)(hi:i<256)(h:mulN a i=1):i=invN a:=by
 obtain⟨h1,h2,h3⟩:=inv_facts a h0 ha
 have key:∀ j,j<256->mulN (invN a) (mulN a j)=j:=fun j hj=>lin_id (fun j=>mulN (invN a) (mulN a j)) (fun p q=>by simp only [mul_xor]) (by show mulN _ (mulN a 0)=0;rw [mulN_sum a 0,sumG_zero,mulN_sum,sumG_zero]) h3 j hj
 have k1:=key i hi
 have k2:=key (invN a) h1
 rw [h]at k1
 rw [h2]at k2
 exact k1.symm.trans k2
theorem mul_zero(a:Nat):mulN a 0=0:=by rw [mulN_sum,sumG_zero]
theorem sum_nil(f:Nat):∀ b,sumG f 0 b=0:=by
 induction f with
 | zero=>intro b;rfl
 | succ f ih=>intro b;rw [sumG,show twN 0=0 from rfl,ih];simp
theorem nil_mul(b:Nat):mulN 0 b=0:=by rw [mulN_sum,sum_nil]
theorem inv_ne(a:Nat)(h0:a≠0)(ha:a<256):1<=invN a:=by
 have:=(inv_facts a h0 ha).2.1
 rcases Nat.eq_zero_or_pos (invN a)with h | h
 · rw [h,mul_zero]at this;cases this
 · exact h
def numB(x:Nat):List UInt8:=if h:x<128 then [UInt8.ofNat x]else UInt8.ofNat (128+x % 128)::numB (x / 128)
termination_by x
theorem numB_one(x:Nat)(h:x<128):numB x=[UInt8.ofNat x]:=by rw [numB,dif_pos h]
theorem numB_more(x:Nat)(h:¬x<128):numB x=UInt8.ofNat (128+x % 128)::numB (x / 128):=by rw [numB,dif_neg h]
theorem numB_len(k:Nat):∀ x,x<128 ^ (k+1)->(numB x).length<=k+1:=by
 induction k with
 | zero=>intro x h;rw [numB_one x (by omega)];simp
 | succ k ih=>
  intro x h
  by_cases h1:x<128
  · rw [numB_one x h1];simp
  · rw [numB_more x h1]
    have:=ih (x / 128) (by rw [Nat.pow_succ]at h;exact Nat.div_lt_of_lt_mul (by rw [Nat.mul_comm];exact h))
    simp;omega
theorem numB_le(x:Nat)(h:x<18446744073709551616):(numB x).length<=10:=
 numB_len 9 x (Nat.lt_of_lt_of_le h (by decide))
def textB(s:List UInt8):List UInt8:=numB s.length++s
def fixB:Nat->Nat->List UInt8
 | 0,_=>[]
 | n+1,x=>UInt8.ofNat (x % 256)::fixB n (x / 256)
theorem fixB_len(n:Nat):∀ x,(fixB n x).length=n:=by
 induction n with
 | zero=>intro x;rfl
 | succ n ih=>intro x;simp [fixB,ih]
theorem fixB_at(n:Nat):∀ (x i:Nat) (h:i<n),(fixB n x)[i]'(by rw [fixB_len];exact h)=UInt8.ofNat (x / 256 ^ i % 256):=by
 induction n with
 | zero=>intro x i h;omega
 | succ n ih=>
  intro x i h
  cases i with
  | zero=>simp [fixB]
  | succ i=>
   have:=ih (x / 256) i (by omega)
   simp only [fixB,List.getElem_cons_succ]
   rw [this,Nat.div_div_eq_div_mul,Nat.pow_succ,Nat.mul_comm]
def zigN(d:Nat):Nat:=if d<9223372036854775808 then 2*d else 2*(18446744073709551615 - d)+1
def bitU(x:Nat):Nat:=if x % 2=1 then(x / 2) ^^^ 3988292384 else x / 2
def byteU(x c:Nat):Nat:=bitU (bitU (bitU (bitU (bitU (bitU (bitU (bitU (x ^^^ c))))))))
def crcGo(x:Nat)(l:List UInt8):Nat:=l.foldl (fun x c=>byteU x c.toNat) x
def sumU(l:List UInt8):Nat:=4294967295 - crcGo 4294967295 l
def tabU(i:Nat):Nat:=bitU (bitU (bitU (bitU i)))
theorem bitU_xor(a b:Nat):bitU (a ^^^ b)=bitU a ^^^ bitU b:=by
 have h:=bit_xor a b 0
 simp only [Nat.pow_zero,Nat.div_one]at h
 unfold bitU
 rw [Nat.xor_div_two]
 by_cases h1:a % 2=1 <;> by_cases h2:b % 2=1
 · rw [if_neg (by rw [h];simp [h1,h2]),if_pos h1,if_pos h2,xor_cross,Nat.xor_self,Nat.xor_zero]
 · rw [if_pos (by rw [h];simp [h1,h2]),if_pos h1,if_neg h2,Nat.xor_assoc,Nat.xor_assoc,Nat.xor_comm (b / 2)]
 · rw [if_pos (by rw [h];simp [h1,h2]),if_neg h1,if_pos h2,Nat.xor_assoc]
 · rw [if_neg (by rw [h];simp [h1,h2]),if_neg h1,if_neg h2]
theorem bitU_lt(x:Nat)(h:x<4294967296):bitU x<4294967296:=by
 unfold bitU
 have h1:x / 2<2 ^ 32:=by omega
 split
 · exact Nat.xor_lt_two_pow h1 (by decide)
 · omega
theorem split16(x:Nat):x=(x / 16*16) ^^^ (x % 16):=by
 apply Nat.eq_of_testBit_eq
 intro j
 rw [Nat.testBit_xor,show(16:Nat)=2 ^ 4 from rfl,Nat.testBit_mul_two_pow,Nat.testBit_mod_two_pow,Nat.testBit_div_two_pow]
 by_cases h:4<=j
 · rw [show j - 4+4=j by omega];simp [h];rw [decide_eq_false (by omega:¬j<4)];simp
 · simp [h];omega
theorem tab_step(x:Nat):bitU (bitU (bitU (bitU x)))=(x / 16) ^^^ tabU (x % 16):=by
 have e:bitU (bitU (bitU (bitU x)))=bitU (bitU (bitU (bitU ((x / 16*16) ^^^ (x % 16))))):=by rw [<- split16]
 rw [e,bitU_xor,bitU_xor,bitU_xor,bitU_xor]
 have h:∀ y,bitU (2*y)=y:=fun y=>by unfold bitU;rw [if_neg (by omega)];omega
 rw [show x / 16*16=2*(2*(2*(2*(x / 16)))) by omega,h,h,h,h]
 rfl
theorem byte_nib(x c:Nat):byteU x c=((x ^^^ c) / 16 ^^^ tabU ((x ^^^ c) % 16)) / 16 ^^^ tabU (((x ^^^ c) / 16 ^^^ tabU ((x ^^^ c) % 16)) % 16):=by
  unfold byteU
  rw [tab_step (x ^^^ c),tab_step]
theorem tabU_lt(i:Nat)(h:i<16):tabU i<4294967296:=bitU_lt _ (bitU_lt _ (bitU_lt _ (bitU_lt _ (by omega))))
theorem byteU_lt(x c:Nat)(hx:x<4294967296)(hc:c<256):byteU x c<4294967296:=by
 have:x ^^^ c<2 ^ 32:=Nat.xor_lt_two_pow hx (by omega)
 exact bitU_lt _ (bitU_lt _ (bitU_lt _ (bitU_lt _ (bitU_lt _ (bitU_lt _ (bitU_lt _ (bitU_lt _ this)))))))
theorem crcGo_lt(l:List UInt8):∀ x,x<4294967296->crcGo x l<4294967296:=by
 induction l with
 | nil=>intro x h;exact h
 | cons c l ih=>intro x h;exact ih _ (byteU_lt x _ h c.toNat_lt)
theorem crcGo_snoc(x:Nat)(l:List UInt8)(k:Nat)(h:k<l.length):crcGo x (l.take (k+1))=byteU (crcGo x (l.take k)) (l[k]).toNat:=by
 unfold crcGo
 rw [List.take_succ_eq_append_getElem h,List.foldl_append];rfl
theorem crcGo_app(x:Nat)(a b:List UInt8):crcGo x (a++b)=crcGo (crcGo x a) b:=by unfold crcGo;rw [List.foldl_append]
def putB(l:List UInt8):List UInt8:=l++[UInt8.ofNat (sumU l % 256),UInt8.ofNat (sumU l / 256 % 256),UInt8.ofNat (sumU l / 65536 % 256),UInt8.ofNat (sumU l / 16777216 % 256)]
theorem sumU_lt(l:List UInt8):sumU l<4294967296:=by unfold sumU;omega
theorem getD_at{α:Type}(l:List α)(i:Nat)(d:α)(h:i<l.length):l.getD i d=l[i]:=by
 rw [List.getD_eq_getElem?_getD,List.getElem?_eq_getElem h];rfl
def addP(l1:List UInt8)(c:Nat)(b:List UInt8):List UInt8:=l1.zipWith (fun x y=>UInt8.ofNat (x.toNat ^^^ mulN c y.toNat)) b
def rowT(M:List UInt8)(C i:Nat)(ds:List (List UInt8))(L:Nat):Nat->List UInt8
 | 0=>List.replicate L 0
 | j+1=>addP (rowT M C i ds L j) (M.getD (i*C+j) 0).toNat (ds.getD j [])
def timesL(M:List UInt8)(C R:Nat)(ds:List (List UInt8))(L:Nat):List (List UInt8):=(List.range R).map fun i=>rowT M C i ds L C
theorem rowT_len(M:List UInt8)(C i:Nat)(ds:List (List UInt8))(L j:Nat)(hl:∀ p∈ds,p.length=L)(hj:j<=ds.length):(rowT M C i ds L j).length=L:=by
 induction j with
 | zero=>simp [rowT]
 | succ j ih=>
  have h1:=ih (by omega)
  have h2:(ds.getD j []).length=L:=by
   rw [List.getD_eq_getElem?_getD,List.getElem?_eq_getElem (by omega)]
   exact hl _ (List.getElem_mem _)
  rw [rowT,addP,List.length_zipWith,h1,h2,Nat.min_self]
theorem timesL_len(M:List UInt8)(C R:Nat)(ds:List (List UInt8))(L:Nat):(timesL M C R ds L).length=R:=by simp [timesL]
theorem addP_len(l1 b:List UInt8)(c:Nat)(h:l1.length=b.length):(addP l1 c b).length=l1.length:=by unfold addP;rw [List.length_zipWith];omega
theorem addP_zero(l b:List UInt8)(h:l.length=b.length):addP l 0 b=l:=by
 apply List.ext_getElem
 · simp [addP,h]
 · intro i h1 h2
   simp [addP,nil_mul]
theorem addP_at(l b:List UInt8)(c i:Nat)(h1:i<l.length)(h2:i<b.length)(h3:i<(addP l c b).length):(addP l c b)[i]=UInt8.ofNat (l[i].toNat ^^^ mulN c b[i].toNat):=by
 simp [addP]
def cellT(M:List UInt8)(C i:Nat)(ds:List (List UInt8))(n:Nat):Nat->Nat
 | 0=>0
 | j+1=>cellT M C i ds n j ^^^ mulN (M.getD (i*C+j) 0).toNat ((ds.getD j []).getD n 0).toNat
theorem cellT_lt(M:List UInt8)(C i:Nat)(ds:List (List UInt8))(n j:Nat):cellT M C i ds n j<256:=by
 induction j with
 | zero=>simp [cellT]
 | succ j ih=>exact Nat.xor_lt_two_pow (n:=8) ih (mul_lt _ _ (UInt8.toNat_lt _))
theorem rowT_at(M:List UInt8)(C i:Nat)(ds:List (List UInt8))(L n j:Nat)(hl:∀ p∈ds,p.length=L)(hj:j<=ds.length)(hn:n<L):(rowT M C i ds L j)[n]'(by rw [rowT_len M C i ds L j hl hj];exact hn)=UInt8.ofNat (cellT M C i ds n j):=by
 induction j with
 | zero=>simp [rowT,cellT]
 | succ j ih=>
  have h1:=ih (by omega)
  have hlen:=rowT_len M C i ds L j hl (by omega)
  have h2:(ds.getD j []).length=L:=by
   rw [List.getD_eq_getElem?_getD,List.getElem?_eq_getElem (by omega)]
   exact hl _ (List.getElem_mem _)
  have h3:(rowT M C i ds L (j+1))=addP (rowT M C i ds L j) (M.getD (i*C+j) 0).toNat (ds.getD j []):=rfl
  have h4:=addP_at (rowT M C i ds L j) (ds.getD j []) (M.getD (i*C+j) 0).toNat n (by omega) (by omega) (by rw [<- h3,rowT_len M C i ds L (j+1) hl hj];exact hn)
  simp only [h3]
  rw [h4,h1,cellT]
  have e1:(UInt8.ofNat (cellT M C i ds n j)).toNat=cellT M C i ds n j:=by
   rw [UInt8.toNat_ofNat'];exact Nat.mod_eq_of_lt (cellT_lt M C i ds n j)
  rw [e1]
  rw [getD_at (ds.getD j []) n 0 (by omega)]
theorem timesL_at(M:List UInt8)(C R:Nat)(ds:List (List UInt8))(L i:Nat)(hi:i<R)(h:i<(timesL M C R ds L).length):(timesL M C R ds L)[i]=rowT M C i ds L C:=by
 simp [timesL]
def cutP(l:List UInt8)(at_ n:Nat):List UInt8:=(List.range n).map fun i=>l.getD (at_+i) 0
theorem cutP_len(l:List UInt8)(a n:Nat):(cutP l a n).length=n:=by simp [cutP]
def partsS(l:List UInt8)(c a k:Nat):List (List UInt8):=(List.range k).map fun i=>cutP l (a+i*c) c
theorem partsS_len(l:List UInt8)(c a k:Nat):(partsS l c a k).length=k:=by simp [partsS]
theorem partsS_all(l:List UInt8)(c a k:Nat):∀ p∈partsS l c a k,p.length=c:=by
 intro p hp
 simp only [partsS,List.mem_map]at hp
 obtain⟨i,_,rfl⟩:=hp
 exact cutP_len _ _ _
def putsL(ls:List (List UInt8)):List UInt8:=(ls.map putB).flatten
theorem putsL_snoc(ls:List (List UInt8))(p:List UInt8):putsL (ls++[p])=putsL ls++putB p:=by simp [putsL]
theorem putsL_app(a b:List (List UInt8)):putsL (a++b)=putsL a++putsL b:=by simp [putsL]
theorem putB_len(p:List UInt8):(putB p).length=p.length+4:=by simp [putB]
theorem putsL_len(ls:List (List UInt8))(c:Nat)(h:∀ p∈ls,p.length=c):(putsL ls).length=ls.length*(c+4):=by
 induction ls with
 | nil=>simp [putsL]
 | cons p ls ih=>
  have:putsL (p::ls)=putB p++putsL ls:=by simp [putsL]
  rw [this,List.length_append,putB_len,ih (fun q hq=>h q (List.mem_cons_of_mem _ hq)),h p (List.mem_cons_self ..),List.length_cons,Nat.add_mul]
  omega
def okCut(l:List UInt8):Bool:=decide (4<=l.length) && decide (putB (l.take (l.length - 4))=l)
def cutB(l:List UInt8):List UInt8:=if okCut l then l.take (l.length - 4)else []
def errCut(l:List UInt8):Nat:=if okCut l then 0 else if l.length<4 then 1 else 5
theorem cut_len'(l:List UInt8)(h:okCut l=true):(cutB l).length=l.length - 4:=by
 unfold cutB
 rw [if_pos h,List.length_take]
 omega
def markV(l:List UInt8):Nat × Nat:=
 if l.length<=4 then(0,1)else if l.take 4=[70,73,82,75]then(if 1<=(l.getD 4 0).toNat/\(l.getD 4 0).toNat<=3 then((l.getD 4 0).toNat,0)else(0,4))else(0,3)
def countB(l:List UInt8):Bool:=okCut l && decide (markV l=(3,0))
def leN:List UInt8->Nat
 | []=>0
 | b::l=>b.toNat+256*leN l
theorem leN_snoc(l:List UInt8)(b:UInt8):leN (l++[b])=leN l+b.toNat*256 ^ l.length:=by
 induction l with
 | nil=>simp [leN]
 | cons c l ih=>
  rw [List.cons_append,leN,leN,ih,List.length_cons,Nat.pow_succ,Nat.mul_add,<- Nat.add_assoc]
  congr 1
  rw [Nat.mul_left_comm,Nat.mul_comm 256 (256 ^ l.length)]
theorem leN_lt(l:List UInt8):leN l<256 ^ l.length:=by
 induction l with
 | nil=>simp [leN]
 | cons c l ih=>
  have:=c.toNat_lt
  rw [leN,List.length_cons,Nat.pow_succ]
  omega
theorem leN_or(x b k:Nat)(h:x<2 ^ k):x ||| (b*2 ^ k)=x+b*2 ^ k:=by
 have:=Nat.two_pow_add_eq_or_of_lt h b
 rw [Nat.or_comm,Nat.mul_comm b,<- this,Nat.add_comm]
theorem leN_take(l:List UInt8)(i:Nat)(h:i<l.length):leN (l.take (i+1))=leN (l.take i) ||| (l[i].toNat*2 ^ (8*i)):=by
 have e:l.take (i+1)=l.take i++[l[i]]:=by rw [List.take_add_one,List.getElem?_eq_getElem h];rfl
 have hl:(l.take i).length=i:=by rw [List.length_take];omega
 have hp:(256:Nat) ^ i=2 ^ (8*i):=by rw [Nat.pow_mul]
 have hlt:=leN_lt (l.take i)
 rw [hl,hp]at hlt
 rw [e,leN_snoc,hl,hp,leN_or _ _ _ hlt]
def numGo(i:Nat)(x:Nat):List UInt8->Nat × Nat × Nat
 | []=>(0,0,1)
 | c::t=>if(i=9/\¬c.toNat=1)\/(0<i/\c.toNat=0)then(0,0,2)else if c.toNat<128 then(x+c.toNat % 128*128 ^ i,i+1,0)else numGo (i+1) (x+c.toNat % 128*128 ^ i) t
def numL(l:List UInt8):Nat × Nat × Nat:=numGo 0 0 l
theorem numGo_ok(l:List UInt8):∀ (i x:Nat),i<=9->x<128 ^ i->(numGo i x l).1<18446744073709551616/\((numGo i x l).2.2=0->i<(numGo i x l).2.1/\(numGo i x l).2.1<=i+l.length/\(numGo i x l).2.1<=10)/\(¬(numGo i x l).2.2=0->(numGo i x l).1=0/\(numGo i x l).2.1=0/\(numGo i x l).2.2<=2):=by
 induction l with
 | nil=>intro i x hi hx;simp [numGo]
 | cons c t ih=>
  intro i x hi hx
  unfold numGo
  split
  · simp
  · rename_i hno
    have hm:c.toNat % 128<128:=Nat.mod_lt _ (by omega)
    have hx2:x+c.toNat % 128*128 ^ i<128 ^ (i+1):=by
     have:c.toNat % 128*128 ^ i<=127*128 ^ i:=Nat.mul_le_mul_right _ (by omega)
     rw [Nat.pow_succ];omega
    by_cases h9:i=9
    · have hc:c.toNat=1:=by omega
      subst h9
      rw [if_pos (by omega),hc]
      have e9:(128:Nat) ^ 9=9223372036854775808:=by decide
      rw [e9]at hx
      refine⟨?_,?_,?_⟩
      · have e1:x+1 % 128*128 ^ 9=x+9223372036854775808:=by rw [e9]
        show x+1 % 128*128 ^ 9<_
        rw [e1]
        clear hx2 hm e9 e1 hno ih
        omega
      · intro _;show 9<9+1/\9+1<=9+(c::t).length/\9+1<=10;simp only [List.length_cons];omega
      · intro h;exact absurd rfl h
    · have hp:(128:Nat) ^ (i+1)<=128 ^ 9:=Nat.pow_le_pow_right (by omega) (by omega)
      have e9:(128:Nat) ^ 9=9223372036854775808:=by decide
      split
      · refine⟨?_,?_,?_⟩
        · show x+c.toNat % 128*128 ^ i<_
          omega
        · intro _;simp;omega
        · intro h;simp at h
      · obtain⟨h1,h2,h3⟩:=ih (i+1) _ (by omega) hx2
        refine⟨h1,fun h=>?_,h3⟩
        obtain⟨a,b,c⟩:=h2 h
        refine⟨by omega,?_,c⟩
        simp only [List.length_cons];omega
theorem numL_lt(l:List UInt8):(numL l).1<18446744073709551616:=(numGo_ok l 0 0 (by omega) (by simp)).1
theorem numL_ok(l:List UInt8)(h:(numL l).2.2=0):0<(numL l).2.1/\(numL l).2.1<=l.length/\(numL l).2.1<=10:=by
 have:=(numGo_ok l 0 0 (by omega) (by simp)).2.1 h
 rw [Nat.zero_add]at this
 exact this
theorem numL_no(l:List UInt8)(h:¬(numL l).2.2=0):(numL l).1=0/\(numL l).2.1=0/\(numL l).2.2<=2:=(numGo_ok l 0 0 (by omega) (by simp)).2.2 h
def limL(most:Nat)(l:List UInt8):Nat × Nat × Nat:=
 if(numL l).2.2=0 then(if most<(numL l).1 then(0,0,6)else numL l)else(0,0,(numL l).2.2)
theorem limL_ok(most:Nat)(l:List UInt8)(h:(limL most l).2.2=0):0<(limL most l).2.1/\(limL most l).2.1<=l.length/\(limL most l).1<=most:=by
 unfold limL at *
 split at h
 · rename_i h0
   split at h
   · simp at h
   · rename_i h1
     rw [if_pos h0,if_neg h1]
     have:=numL_ok l h0
     omega
 · rename_i h0;exact absurd h h0
theorem limL_no(most:Nat)(l:List UInt8)(h:¬(limL most l).2.2=0):(limL most l).1=0/\(limL most l).2.1=0/\(limL most l).2.2<=6:=by
 unfold limL at *
 split at h
 · rename_i h0
   split at h
   · rename_i h1;rw [if_pos h0,if_pos h1];simp
   · exact absurd h0 h
 · rename_i h0
   rw [if_neg h0]
   have:=numL_no l h0
   refine⟨rfl,rfl,?_⟩
   show(numL l).2.2<=6
   omega
structure Cs where
 at_:Nat
 er:Nat
def Cs.step(s:Cs)(r:Nat × Nat × Nat):Cs:=if s.er=0 then(if r.2.2=0 then⟨s.at_+r.2.1,0⟩else⟨s.at_,r.2.2⟩)else s
def Cs.val(s:Cs)(r:Nat × Nat × Nat):Nat:=if s.er=0/\r.2.2=0 then r.1 else 0
def Cs.num(s:Cs)(l:List UInt8):Nat × Cs:=(s.val (numL (l.drop s.at_)),s.step (numL (l.drop s.at_)))
def Cs.int(s:Cs)(l:List UInt8)(most:Nat):Nat × Cs:=(s.val (limL most (l.drop s.at_)),s.step (limL most (l.drop s.at_)))
def Cs.fail(s:Cs)(e:Nat):Cs:=if s.er=0 then⟨s.at_,e⟩else s
def Cs.fin(s:Cs)(l:List UInt8):Cs:=if s.er=0/\s.at_<l.length then⟨s.at_,2⟩else s
def Cs.take(s:Cs)(l:List UInt8)(k:Nat):List UInt8 × Cs:=
 if s.er=0 then(if l.length<s.at_+k then([],⟨s.at_,1⟩)else((l.drop s.at_).take k,⟨s.at_+k,0⟩))else([],s)
def Cs.byte(s:Cs)(l:List UInt8):Nat × Cs:=((((s.take l 1).1).getD 0 0).toNat,(s.take l 1).2)
def Cs.fixed(s:Cs)(l:List UInt8)(k:Nat):Nat × Cs:=(leN (s.take l k).1,(s.take l k).2)
def txtL(most:Nat)(l:List UInt8):List UInt8 × Nat × Nat:=
 if(limL most l).2.2=0 then(if l.length<(limL most l).2.1+(limL most l).1 then([],0,1)else((l.drop (limL most l).2.1).take (limL most l).1,(limL most l).2.1+(limL most l).1,0))else([],0,(limL most l).2.2)
def Cs.text(s:Cs)(l:List UInt8)(most:Nat):List UInt8 × Cs:=
 (if s.er=0 then(txtL most (l.drop s.at_)).1 else [],s.step (0,(txtL most (l.drop s.at_)).2))
theorem txtL_ok(most:Nat)(l:List UInt8)(h:(txtL most l).2.2=0):0<(txtL most l).2.1/\(txtL most l).2.1<=l.length/\(txtL most l).1.length<=most:=by
 unfold txtL at *
 split at h
 · rename_i h0
   split at h
   · simp at h
   · rename_i h1
     rw [if_pos h0,if_neg h1]
     have:=limL_ok most l h0
     refine⟨?_,?_,?_⟩
     · show 0<(limL most l).2.1+(limL most l).1;omega
     · show(limL most l).2.1+(limL most l).1<=_;omega
     · show(List.take _ _).length<=_
       rw [List.length_take];omega
 · rename_i h0;exact absurd h h0
theorem txtL_no(most:Nat)(l:List UInt8)(h:¬(txtL most l).2.2=0):(txtL most l).1=[]/\(txtL most l).2.1=0:=by
 unfold txtL at *
 split at h
 · rename_i h0
   split at h
   · rename_i h1;rw [if_pos h0,if_pos h1];simp
   · exact absurd rfl h
 · rename_i h0
   rw [if_neg h0];simp
theorem Cs.step_le(s:Cs)(r:Nat × Nat × Nat)(n:Nat)(h:s.at_<=n)(h2:r.2.2=0->r.2.1<=n - s.at_):(s.step r).at_<=n:=by
 unfold Cs.step
 split
 · split
   · rename_i h3;have:=h2 h3;show s.at_+_<=n;omega
   · exact h
 · exact h
theorem Cs.int_le(s:Cs)(l:List UInt8)(most:Nat)(h:s.at_<=l.length):(s.int l most).2.at_<=l.length:=
 s.step_le _ _ h fun e=>by have:=limL_ok _ _ e;rw [List.length_drop]at this;omega
theorem Cs.take_le(s:Cs)(l:List UInt8)(k:Nat)(h:s.at_<=l.length):(s.take l k).2.at_<=l.length:=by
 unfold Cs.take
 split
 · split
   · exact h
   · show s.at_+k<=_;omega
 · exact h
def bitR(l:List UInt8)(i:Nat):Nat:=(l.getD (i / 8) 0).toNat / 2 ^ (7 - i % 8) % 2
theorem bitR_two(l:List UInt8)(i:Nat):bitR l i=0\/bitR l i=1:=by unfold bitR;omega
def rbits(l:List UInt8):List UInt8:=(List.range (8*l.length)).map fun i=>UInt8.ofNat (bitR l i)
theorem rbits_len(l:List UInt8):(rbits l).length=8*l.length:=by simp [rbits]
theorem rbits_at(l:List UInt8)(i:Nat)(h:i<(rbits l).length):(rbits l)[i]=UInt8.ofNat (bitR l i):=by simp [rbits]
theorem rbits_nat(l:List UInt8)(i:Nat)(h:i<(rbits l).length):((rbits l)[i]).toNat=bitR l i:=by
 rw [rbits_at];rcases bitR_two l i with e | e <;> rw [e] <;> rfl
def numAt(l:List UInt8)(a:Nat):Nat->Nat
 | 0=>0
 | n+1=>2*numAt l a n+bitR l (a+n)
theorem numAt_lt(l:List UInt8)(a n:Nat):numAt l a n<2 ^ n:=by
 induction n with
 | zero=>simp [numAt]
 | succ n ih=>
  have:=bitR_two l (a+n)
  rw [numAt,Nat.pow_succ];omega
theorem numAt_zero(l:List UInt8)(a n:Nat):numAt l a n=0↔∀ i,i<n->bitR l (a+i)=0:=by
 induction n with
 | zero=>simp [numAt]
 | succ n ih=>
  rw [numAt]
  constructor
  · intro h i hi
    rcases Nat.lt_or_ge i n with h1 | h1
    · exact ih.1 (by omega) i h1
    · have e:i=n:=by omega
      subst e;omega
  · intro h
    have h1:=ih.2 fun i hi=>h i (by omega)
    have h2:=h n (by omega)
    omega
def unGo(l:List UInt8):Nat->Nat->Option Nat
 | 0,_=>none
 | f+1,i=>if bitR l i=1 then some i else unGo l f (i+1)
theorem unGo_step(l:List UInt8)(i:Nat)(h:i<8*l.length):unGo l (8*l.length - i) i=if bitR l i=1 then some i else unGo l (8*l.length - (i+1)) (i+1):=by
 have e:8*l.length - i=(8*l.length - (i+1))+1:=by omega
 rw [e,unGo]
theorem unGo_some(l:List UInt8)(f:Nat):∀ i j,unGo l f i=some j->i<=j/\j<i+f:=by
 induction f with
 | zero=>intro i j h;cases h
 | succ f ih=>
  intro i j h
  rw [unGo]at h
  split at h
  · cases h;omega
  · have:=ih _ _ h;omega
def unaR(l:List UInt8)(a:Nat):Nat × Nat × Nat:=
 match unGo l (8*l.length - a) a with
 | some i=>(i - a,i+1,0)
 | none=>(0,a,1)
theorem unaR_ok(l:List UInt8)(a:Nat)(ha:a<=8*l.length):a<=(unaR l a).2.1/\(unaR l a).2.1<=8*l.length/\(unaR l a).1<=8*l.length:=by
 unfold unaR
 cases h:unGo l (8*l.length - a) a with
 | none=>exact⟨Nat.le_refl _,ha,Nat.zero_le _⟩
 | some i=>
  have:=unGo_some _ _ _ _ h
  show a<=i+1/\i+1<=_/\i - a<=_
  omega
def efGo(bound w:Nat)(r:List UInt8):Nat->Nat->Nat->Nat->Nat->List Nat->List Nat × Nat × Nat
 | 0,_,a,_,_,ids=>(ids,a,0)
 | k+1,i,a,high,lo,ids=>
  if (unaR r a).2.2 = 0 then
   (if (high + (unaR r a).1) * 2 ^ w + numAt r (w * i) w < lo then ([], 0, 2)
    else if bound ≤ (high + (unaR r a).1) * 2 ^ w + numAt r (w * i) w then ([], 0, 8)
    else efGo bound w r k (i + 1) (unaR r a).2.1 (high + (unaR r a).1) ((high + (unaR r a).1) * 2 ^ w + numAt r (w * i) w + 1) (ids ++ [(high + (unaR r a).1) * 2 ^ w + numAt r (w * i) w]))
  else([],0,1)
def padB(r:List UInt8)(a:Nat):Bool:=decide (numAt r a ((8 - a % 8) % 8)=0)
def efR(bound:Nat)(b:List UInt8):List Nat × Nat × Nat:=
 if (limL bound b).2.2 = 0 then
  (if (limL bound b).1 = 0 then ([], (limL bound b).2.1, 0)
   else if 8 * (b.drop (limL bound b).2.1).length < (limL bound b).1 * Nat.log2 (bound / (limL bound b).1) then ([], 0, 1)
   else if (efGo bound (Nat.log2 (bound / (limL bound b).1)) (b.drop (limL bound b).2.1) (limL bound b).1 0 ((limL bound b).1 * Nat.log2 (bound / (limL bound b).1)) 0 0 []).2.2 = 0 then
    (if padB (b.drop (limL bound b).2.1) (efGo bound (Nat.log2 (bound / (limL bound b).1)) (b.drop (limL bound b).2.1) (limL bound b).1 0 ((limL bound b).1 * Nat.log2 (bound / (limL bound b).1)) 0 0 []).2.1 then
     ((efGo bound (Nat.log2 (bound / (limL bound b).1)) (b.drop (limL bound b).2.1) (limL bound b).1 0 ((limL bound b).1 * Nat.log2 (bound / (limL bound b).1)) 0 0 []).1,
      (limL bound b).2.1 + ((efGo bound (Nat.log2 (bound / (limL bound b).1)) (b.drop (limL bound b).2.1) (limL bound b).1 0 ((limL bound b).1 * Nat.log2 (bound / (limL bound b).1)) 0 0 []).2.1 + 7) / 8, 0)
     else ([], 0, 2))
   else ([], 0, (efGo bound (Nat.log2 (bound / (limL bound b).1)) (b.drop (limL bound b).2.1) (limL bound b).1 0 ((limL bound b).1 * Nat.log2 (bound / (limL bound b).1)) 0 0 []).2.2))
 else([],0,(limL bound b).2.2)
theorem efGo_ok(bound w:Nat)(r:List UInt8)(k:Nat):∀ (i a high lo:Nat) (ids:List Nat),a<=8*r.length->(efGo bound w r k i a high lo ids).2.2=0->(efGo bound w r k i a high lo ids).2.1<=8*r.length/\a<=(efGo bound w r k i a high lo ids).2.1/\(efGo bound w r k i a high lo ids).1.length=ids.length+k/\((∀ x∈ids,x<bound)->∀ x∈(efGo bound w r k i a high lo ids).1,x<bound):=by
 induction k with
 | zero=>intro i a high lo ids ha _;exact⟨ha,Nat.le_refl _,rfl,fun h=>h⟩
 | succ k ih=>
  intro i a high lo ids ha h
  rw [efGo]at h ⊢
  split at h
  · rename_i h0
    rw [if_pos h0]
    split at h
    · simp at h
    · rename_i h1
      rw [if_neg h1]
      split at h
      · simp at h
      · rename_i h2
        rw [if_neg h2]
        have hu:=unaR_ok r a ha
        obtain⟨b1,b2,b3,b4⟩:=ih _ _ _ _ _ hu.2.1 h
        refine⟨b1,by omega,by rw [b3,List.length_append];simp;omega,fun hx=>b4 fun x hm=>?_⟩
        rcases List.mem_append.1 hm with hm | hm
        · exact hx x hm
        · rw [List.mem_singleton.1 hm];omega
  · simp at h
theorem efR_ok(bound:Nat)(b:List UInt8)(h:(efR bound b).2.2=0):(efR bound b).2.1<=b.length/\0<(efR bound b).2.1/\(efR bound b).1.length<=bound/\∀ x∈(efR bound b).1,x<bound:=by
 unfold efR at *
 split at h
 · rename_i h0
   rw [if_pos h0]
   have hl:=limL_ok _ _ h0
   split at h
   · rename_i h1
     rw [if_pos h1]
     exact⟨hl.2.1,hl.1,Nat.zero_le _,fun x hx=>by cases hx⟩
   · rename_i h1
     rw [if_neg h1]
     split at h
     · simp at h
     · rename_i h2
       rw [if_neg h2]
       split at h
       · rename_i h3
         rw [if_pos h3]
         split at h
         · rename_i h4
           rw [if_pos h4]
           have he:=efGo_ok _ _ _ _ _ _ _ _ _ (by omega) h3
           have hd:(b.drop (limL bound b).2.1).length=b.length - (limL bound b).2.1:=List.length_drop ..
           refine⟨?_,?_,?_,?_⟩
           · show _+(_+7) / 8<=_
             rw [hd]at he;omega
           · show 0<_+(_+7) / 8;omega
           · show List.length _<=_
             rw [he.2.2.1];simp;omega
           · exact he.2.2.2 fun x hx=>by cases hx
         · simp at h
       · rename_i h3;exact absurd h h3
 · rename_i h0;exact absurd h h0
structure Tok where
 lit:UInt8
 len:Nat
 dist:Nat
 deriving DecidableEq
instance:Inhabited Tok:=⟨⟨0,0,0⟩⟩
def alikeN(b:List UInt8):Nat->Nat->Nat->Nat
 | _,_,0=>0
 | f,a,n+1=>if a<b.length/\b[f]?=b[a]? then alikeN b (f+1) (a+1) n+1 else 0
def alikeK(b:List UInt8)(f a:Nat):Nat:=alikeN b f a 257
def trip(b:List UInt8)(p:Nat):List UInt8:=(b.drop p).take 3
def stepB(b:List UInt8)(at_:Nat)(s:Nat × Nat)(dist:Nat):Nat × Nat:=if s.1<alikeK b (at_ - dist) at_ then(alikeK b (at_ - dist) at_,dist)else s
def bestTo(b:List UInt8)(at_:Nat):Nat->Nat × Nat
 | 0=>(0,0)
 | d+1=>stepB b at_ (bestTo b at_ d) (d+1)
def bestK(b:List UInt8)(at_:Nat):Nat × Nat:=bestTo b at_ (min 4095 at_)
def chainIs(s t:Nat × Nat):Prop:=(3<=s.1->t=s)/\(s.1<3->t=(0,0))
def lastK(b:List UInt8)(key:List UInt8):Nat->Option Nat
 | 0=>none
 | n+1=>if n+3<=b.length/\trip b n=key then some n else lastK b key n
def prevK(b:List UInt8)(p:Nat):Option Nat:=if p+3<=b.length then lastK b (trip b p) p else none
def findGo(b:List UInt8)(a:Nat):List Tok:=
 if h : a < b.length then
  if h3:3<=(bestK b a).1 then⟨0,(bestK b a).1,(bestK b a).2⟩::findGo b (a+(bestK b a).1)
  else⟨b[a],0,0⟩::findGo b (a+1)
 else []
termination_by b.length - a
def findK(b:List UInt8):List Tok:=findGo b 0
def mayT(t:Tok):Bool:=if t.len=0 then decide (t.dist=0)else decide (t.lit=0) && decide (3<=t.len) && decide (t.len<=257) && decide (1<=t.dist) && decide (t.dist<=4095)
def cntK(lens:List UInt8)(l:Nat):Nat:=lens.countP fun c=>c.toNat == l
def firstK(lens:List UInt8):Nat->Nat
 | 0=>0
 | 1=>0
 | l+2=>2*(firstK lens (l+1)+cntK lens (l+1))
def valK(lens:List UInt8)(l s:Nat):Nat:=firstK lens l+cntK (lens.take s) l
def codesK(lens:List UInt8):List Nat:=lens.mapIdx fun s c=>if c=0 then 0 else valK lens c.toNat s % 65536
def kraftK(lens:List UInt8):Nat:=(lens.map fun c=>if c=0 then 0 else 2 ^ (15 - c.toNat)).sum
def sumK(f:Nat->Nat):Nat->Nat
 | 0=>0
 | l+1=>sumK f l+f (l+1)
def wordsK(lens:List UInt8):Nat:=lens.countP fun c=>c != 0
def okK(lens:List UInt8):Bool:=decide (wordsK lens=0) || decide (kraftK lens=32768) || (decide (wordsK lens=1) && decide (cntK lens 1=1))
def bitsL(x:Nat):Nat->List UInt8
 | 0=>[]
 | n+1=>UInt8.ofNat (x / 2 ^ n % 2)::bitsL x n
def IsBits(l:List UInt8):Prop:=∀ c∈l,c=0\/c=1
theorem IsBits.app{a b:List UInt8}(h1:IsBits a)(h2:IsBits b):IsBits (a++b):=by
 intro c hc
 rcases List.mem_append.1 hc with h | h
 · exact h1 c h
 · exact h2 c h
def unaryL(n:Nat):List UInt8:=List.replicate n 0++[1]
def bitD(l:List UInt8)(i:Nat):Nat:=(l.getD i 0).toNat
def byteW(l:List UInt8)(q:Nat):Nat:=
 bitD l (8*q)*128+bitD l (8*q+1)*64+bitD l (8*q+2)*32+bitD l (8*q+3)*16+bitD l (8*q+4)*8+bitD l (8*q+5)*4+bitD l (8*q+6)*2+bitD l (8*q+7)
def packW(l:List UInt8):List UInt8:=(List.range ((l.length+7) / 8)).map fun q=>UInt8.ofNat (byteW l q)
def fM(lens:List UInt8)(s l:Nat):Nat:=if cntK (lens.take s) l=0 then 0 else firstK lens l % 65536
def sM(lens:List UInt8)(s l:Nat):List Nat:=(List.range s).filter fun i=>(lens.getD i 0).toNat == l
def symL(lens:List UInt8)(s:Nat):Nat:=(lens.getD s 0).toNat
def bitK(lens:List UInt8)(s:Nat):List UInt8:=if symL lens s=0 then []else bitsL ((codesK lens).getD s 0) (symL lens s)
def zrun:List UInt8->Nat->Nat
 | [],_=>0
 | _::_,0=>0
 | c::l,k+1=>if c=0 then zrun l k+1 else 0
def wrGo:List UInt8->List UInt8
 | []=>[]
 | c::r=>if c=0 then bitsL 0 4++(bitsL (zrun r 63) 6++wrGo (r.drop (zrun r 63)))else bitsL c.toNat 4++wrGo r
termination_by l=>l.length
decreasing_by
 · rw [List.length_drop,List.length_cons];omega
 · rw [List.length_cons];omega
def clsK(v:Nat):Nat:=Nat.log2 v
def rstK(v:Nat):Nat:=v - 2 ^ Nat.log2 v
structure Pce where
 sym:Nat
 len:Nat
 dist:Nat
 far:Nat
 deriving DecidableEq
def pieceK(t:Tok):Pce:=if t.len=0 then⟨t.lit.toNat,0,0,0⟩else⟨257+clsK (t.len - 2),rstK (t.len - 2),clsK t.dist,rstK t.dist⟩
def symsN(l:List Tok)(k:Nat):Nat:=l.countP fun t=>(pieceK t).sym == k
def farsN(l:List Tok)(k:Nat):Nat:=l.countP fun t=>decide (t.len≠0) && ((pieceK t).dist == k)
def symsL(l:List Tok):List Nat:=(List.range 265).map fun k=>symsN l k+if k=256 then 1 else 0
def farsL(l:List Tok):List Nat:=(List.range 12).map (farsN l)
def wrK(a:List UInt8):List UInt8:=if okK a then wrGo a else []
def ptK(a:List UInt8)(s:Nat):List UInt8:=if okK a then bitK a s else []
def tokK(a b:List UInt8)(t:Tok):List UInt8:=
 ptK a (pieceK t).sym++if t.len=0 then []else bitsL (pieceK t).len ((pieceK t).sym - 257)++(ptK b (pieceK t).dist++bitsL (pieceK t).far (pieceK t).dist)
def toksK(a b:List UInt8)(l:List Tok):List UInt8:=l.flatMap (tokK a b)
def allK(a b:List UInt8)(l:List Tok):List UInt8:=((wrK a++wrK b)++toksK a b l)++ptK a 256
def wtS{α:Type}(f:α->Nat)(l:List α):Nat:=(l.map f).sum
theorem wtS_snoc{α:Type}(f:α->Nat)(l:List α)(k:Nat)(h:k<l.length):wtS f (l.take (k+1))=wtS f (l.take k)+f l[k]:=by
 unfold wtS;rw [List.take_succ_eq_append_getElem h,List.map_append,List.sum_append];simp
theorem wtS_le{α:Type}(f:α->Nat)(m:Nat)(l:List α)(h:∀ x∈l,f x<=m):wtS f l<=l.length*m:=by
 induction l with
 | nil=>simp [wtS]
 | cons x l ih=>
  have h1:=h x (List.mem_cons_self ..)
  have h2:=ih (fun y hy=>h y (List.mem_cons_of_mem _ hy))
  unfold wtS at *
  rw [List.map_cons,List.sum_cons,List.length_cons,Nat.add_mul];omega
theorem flat_len{α β:Type}(f:α->List β)(l:List α):((l.map f).flatten).length=wtS (fun x=>(f x).length) l:=by
 induction l with
 | nil=>rfl
 | cons x l ih=>unfold wtS at *;simp [ih]
def grpGo{α:Type}(S:Nat)(f:α->Nat):Nat->Nat->List α->List Nat
 | c,_,[]=>[c]
 | c,h,r::l=>if h+f r<=S then grpGo S f (c+1) (h+f r) l else c::grpGo S f 1 (f r) l
def groupsL{α:Type}(S:Nat)(f:α->Nat):List α->List Nat
 | []=>[]
 | r::l=>grpGo S f 1 (f r) l
def dif64(t was:Nat):Nat:=(t+18446744073709551616 - was) % 18446744073709551616
def timesGo:Nat->List Nat->List UInt8
 | _,[]=>[]
 | was,t::l=>numB (zigN (dif64 t was))++timesGo t l
def lvGo:UInt8->Nat->List UInt8->List UInt8
 | x,c,[]=>x::numB c
 | x,c,y::l=>if y=x then lvGo x (c+1) l else(x::numB c)++lvGo y 1 l
def levelsL:List UInt8->List UInt8
 | []=>[]
 | x::l=>lvGo x 1 l
theorem lin_eq(f g:Nat->Nat)(hf:∀ p q,p<256->q<256->f (p ^^^ q)=f p ^^^ f q)(hg:∀ p q,p<256->q<256->g (p ^^^ q)=g p ^^^ g q)(hk:∀ k,k<8->f (2 ^ k)=g (2 ^ k))(i:Nat)(hi:i<256):f i=g i:=by
 have e:bits8 i=i:=by simpa using allB_out 256 _ bits_all i hi
 have f0:f 0=0:=by have:=hf 0 0 (by omega) (by omega);simpa using this
 have g0:g 0=0:=by have:=hg 0 0 (by omega) (by omega);simpa using this
 have hlt:∀ k,k<8->bitAt i k<2 ^ 8:=by
  intro k h
  unfold bitAt
  split
  · exact Nat.pow_lt_pow_right (by omega) h
  · omega
 have hb:∀ k,k<8->f (bitAt i k)=g (bitAt i k):=by
  intro k h
  unfold bitAt
  split
  · exact hk k h
  · rw [f0,g0]
 have x2:∀ {p q:Nat},p<2 ^ 8->q<2 ^ 8->p ^^^ q<2 ^ 8:=fun h1 h2=>Nat.xor_lt_two_pow h1 h2
 have h0:=hlt 0 (by omega)
 have h1:=hlt 1 (by omega)
 have h2:=hlt 2 (by omega)
 have h3:=hlt 3 (by omega)
 have h4:=hlt 4 (by omega)
 have h5:=hlt 5 (by omega)
 have h6:=hlt 6 (by omega)
 have h7:=hlt 7 (by omega)
 have k6:=x2 h6 h7
 have k5:=x2 h5 k6
 have k4:=x2 h4 k5
 have k3:=x2 h3 k4
 have k2:=x2 h2 k3
 have k1:=x2 h1 k2
 have:f (bits8 i)=g (bits8 i):=by
  unfold bits8
  rw [hf _ _ h0 k1,hf _ _ h1 k2,hf _ _ h2 k3,hf _ _ h3 k4,hf _ _ h4 k5,hf _ _ h5 k6,hf _ _ h6 h7,hg _ _ h0 k1,hg _ _ h1 k2,hg _ _ h2 k3,hg _ _ h3 k4,hg _ _ h4 k5,hg _ _ h5 k6,hg _ _ h6 h7]
  rw [hb 0 (by omega),hb 1 (by omega),hb 2 (by omega),hb 3 (by omega),hb 4 (by omega),hb 5 (by omega),hb 6 (by omega),hb 7 (by omega)]
 rwa [e]at this
theorem sum_xor_l(f:Nat):∀ p q b,p<256->q<256->sumG f (p ^^^ q) b=sumG f p b ^^^ sumG f q b:=by
 induction f with
 | zero=>intro p q b _ _;simp [sumG]
 | succ f ih=>
  intro p q b hp hq
  rw [sumG,sumG,sumG,tw_xor p q hp hq,ih _ _ _ (tw_lt p hp) (tw_lt q hq),xor_cross]
  congr 1
  split <;> simp
theorem mul_xor_l(p q b:Nat)(hp:p<256)(hq:q<256):mulN (p ^^^ q) b=mulN p b ^^^ mulN q b:=by rw [mulN_sum,mulN_sum,mulN_sum,sum_xor_l 8 p q b hp hq]
theorem comm_all:allB 8 (fun i=>allB 8 fun j=>mulN (2 ^ i) (2 ^ j) == mulN (2 ^ j) (2 ^ i))=true:=by decide +kernel
theorem mul_commN(a b:Nat)(ha:a<256)(hb:b<256):mulN a b=mulN b a:=by
 refine lin_eq (fun b=>mulN a b) (fun b=>mulN b a) (fun p q _ _=>mul_xor a p q) (fun p q hp hq=>mul_xor_l p q a hp hq) ?_ b hb
 intro j hj
 refine lin_eq (fun a=>mulN a (2 ^ j)) (fun a=>mulN (2 ^ j) a) (fun p q hp hq=>mul_xor_l p q _ hp hq) (fun p q _ _=>mul_xor _ p q) ?_ a ha
 intro i hi
 simpa using allB_out 8 _ (allB_out 8 _ comm_all i hi) j hj
theorem assoc_all:allB 8 (fun i=>allB 8 fun j=>allB 8 fun k=>mulN (mulN (2 ^ i) (2 ^ j)) (2 ^ k) == mulN (2 ^ i) (mulN (2 ^ j) (2 ^ k)))=true:=by decide +kernel
theorem mul_assocN(a b c:Nat)(ha:a<256)(hb:b<256)(hc:c<256):mulN (mulN a b) c=mulN a (mulN b c):=by
 refine lin_eq (fun c=>mulN (mulN a b) c) (fun c=>mulN a (mulN b c)) (fun p q _ _=>by simp only [mul_xor]) (fun p q _ _=>by simp only [mul_xor]) ?_ c hc
 intro k hk
 refine lin_eq (fun b=>mulN (mulN a b) (2 ^ k)) (fun b=>mulN a (mulN b (2 ^ k))) (fun p q _ _=>?_) (fun p q hp hq=>?_) ?_ b hb
 · show mulN (mulN a (p ^^^ q)) _=_
   rw [mul_xor,mul_xor_l _ _ _ (mul_lt a p ha) (mul_lt a q ha)]
 · show mulN a (mulN (p ^^^ q) _)=_
   rw [mul_xor_l _ _ _ hp hq,mul_xor]
 intro j hj
 have hj2:2 ^ j<256:=Nat.pow_lt_pow_right (n:=8) (by omega) hj
 refine lin_eq (fun a=>mulN (mulN a (2 ^ j)) (2 ^ k)) (fun a=>mulN a (mulN (2 ^ j) (2 ^ k))) (fun p q hp hq=>?_) (fun p q hp hq=>?_) ?_ a ha
 · show mulN (mulN (p ^^^ q) _) _=_
   rw [mul_xor_l _ _ _ hp hq,mul_xor_l _ _ _ (mul_lt p _ hp) (mul_lt q _ hq)]
 · show mulN (p ^^^ q) _=_
   rw [mul_xor_l _ _ _ hp hq]
 intro i hi
 simpa using allB_out 8 _ (allB_out 8 _ (allB_out 8 _ assoc_all i hi) j hj) k hk
def mul8(a b:UInt8):UInt8:=UInt8.ofNat (mulN a.toNat b.toNat)
def inv8(a:UInt8):UInt8:=UInt8.ofNat (if a.toNat=0 then 0 else invN a.toNat)
theorem ofNat_toNat8(n:Nat)(h:n<256):(UInt8.ofNat n).toNat=n:=by rw [UInt8.toNat_ofNat'];exact Nat.mod_eq_of_lt h
theorem mul8_nat(a b:UInt8):(mul8 a b).toNat=mulN a.toNat b.toNat:=ofNat_toNat8 _ (mul_lt _ _ a.toNat_lt)
theorem mul8_comm(a b:UInt8):mul8 a b=mul8 b a:=by unfold mul8;rw [mul_commN _ _ a.toNat_lt b.toNat_lt]
theorem mul8_assoc(a b c:UInt8):mul8 (mul8 a b) c=mul8 a (mul8 b c):=UInt8.toNat_inj.1 (by rw [mul8_nat,mul8_nat,mul8_nat,mul8_nat,mul_assocN _ _ _ a.toNat_lt b.toNat_lt c.toNat_lt])
theorem mul8_left(a b c:UInt8):mul8 a (mul8 b c)=mul8 b (mul8 a c):=by rw [<- mul8_assoc,mul8_comm a b,mul8_assoc]
theorem mul8_xor(a b c:UInt8):mul8 a (b ^^^ c)=mul8 a b ^^^ mul8 a c:=UInt8.toNat_inj.1 (by rw [mul8_nat,UInt8.toNat_xor,UInt8.toNat_xor,mul8_nat,mul8_nat,mul_xor])
theorem xor_mul8(a b c:UInt8):mul8 (a ^^^ b) c=mul8 a c ^^^ mul8 b c:=by rw [mul8_comm,mul8_xor,mul8_comm c,mul8_comm c]
theorem mul8_zero(a:UInt8):mul8 a 0=0:=UInt8.toNat_inj.1 (by rw [mul8_nat];exact mul_zero _)
theorem zero_mul8(a:UInt8):mul8 0 a=0:=UInt8.toNat_inj.1 (by rw [mul8_nat];exact nil_mul _)
theorem one_all:allB 256 (fun a=>mulN a 1 == a)=true:=by decide +kernel
theorem mul8_one(a:UInt8):mul8 a 1=a:=UInt8.toNat_inj.1 (by rw [mul8_nat];simpa using allB_out 256 _ one_all a.toNat a.toNat_lt)
theorem one_mul8(a:UInt8):mul8 1 a=a:=by rw [mul8_comm,mul8_one]
theorem toNat_ne0(a:UInt8)(h:a≠0):a.toNat≠0:=fun e=>h (UInt8.toNat_inj.1 e)
theorem mul8_inv(a:UInt8)(h:a≠0):mul8 a (inv8 a)=1:=by
 have h0:=toNat_ne0 a h
 have h1:=inv_facts a.toNat h0 a.toNat_lt
 unfold inv8
 rw [if_neg h0]
 exact UInt8.toNat_inj.1 (by rw [mul8_nat,ofNat_toNat8 _ h1.1,h1.2.1];rfl)
theorem inv8_one:inv8 1=1:=by decide +kernel
theorem mul8_nz(a b:UInt8)(ha:a≠0)(h:mul8 a b=0):b=0:=by
 have h1:mul8 (inv8 a) (mul8 a b)=b:=by rw [<- mul8_assoc,mul8_comm (inv8 a),mul8_inv a ha,one_mul8]
 rw [h,mul8_zero]at h1
 exact h1.symm
theorem inv8_nz(a:UInt8)(h:a≠0):inv8 a≠0:=by
 intro e
 have:=mul8_inv a h
 rw [e,mul8_zero]at this
 exact absurd this (by decide)
theorem xor8_eq{a b:UInt8}(h:a ^^^ b=0):a=b:=by
 have:a ^^^ b ^^^ b=b:=by rw [h];exact UInt8.zero_xor
 rwa [UInt8.xor_assoc,UInt8.xor_self,UInt8.xor_zero]at this
theorem xor8_ne{a b:UInt8}(h:a≠b):a ^^^ b≠0:=fun e=>h (xor8_eq e)
def xsum:List UInt8->UInt8
 | []=>0
 | x::l=>x ^^^ xsum l
theorem xsum_app(a b:List UInt8):xsum (a++b)=xsum a ^^^ xsum b:=by
 induction a with
 | nil=>simp [xsum]
 | cons x a ih=>rw [List.cons_append,xsum,xsum,ih,UInt8.xor_assoc]
theorem xsum_mul(c:UInt8)(l:List UInt8):mul8 c (xsum l)=xsum (l.map (mul8 c)):=by
 induction l with
 | nil=>exact mul8_zero c
 | cons x l ih=>rw [xsum,mul8_xor,ih,List.map_cons,xsum]
theorem xor4(a b c d:UInt8):(a ^^^ b) ^^^ (c ^^^ d)=(a ^^^ c) ^^^ (b ^^^ d):=by
 rw [UInt8.xor_assoc,UInt8.xor_assoc,<- UInt8.xor_assoc b,UInt8.xor_comm b c,UInt8.xor_assoc c]
theorem xsum_add{α:Type}(f g:α->UInt8)(l:List α):xsum (l.map f) ^^^ xsum (l.map g)=xsum (l.map fun x=>f x ^^^ g x):=by
 induction l with
 | nil=>simp [xsum]
 | cons x l ih=>simp only [List.map_cons,xsum];rw [xor4,ih]
theorem cauchy_id(a b d g:UInt8)(ha:a≠0)(hb:b≠0):mul8 (a ^^^ b) (mul8 (mul8 g (mul8 d (inv8 b))) (inv8 a))=mul8 (a ^^^ d) (mul8 g (inv8 a)) ^^^ mul8 (b ^^^ d) (mul8 g (inv8 b)):=by
 have A:∀ z,mul8 a (mul8 z (inv8 a))=z:=fun z=>by rw [mul8_left,mul8_inv a ha,mul8_one]
 have B:∀ z,mul8 b (mul8 z (inv8 b))=z:=fun z=>by rw [mul8_left,mul8_inv b hb,mul8_one]
 rw [xor_mul8,xor_mul8,xor_mul8,A,A,B,xor4,UInt8.xor_self,UInt8.zero_xor,mul8_assoc g,mul8_assoc d,mul8_left b g,mul8_left b d,<- mul8_assoc b,mul8_inv b hb,one_mul8,mul8_left d g,mul8_left d g,UInt8.xor_comm]
theorem cauchy_no:∀ (ys xs:List UInt8) (c:UInt8->UInt8),ys≠[]->ys.length<=xs.length->ys.Nodup->xs.Nodup->(∀ x∈xs,x ∉ ys)->(∀ y∈ys,c y≠0)->(∀ x∈xs,xsum (ys.map fun y=>mul8 (c y) (inv8 (x ^^^ y)))=0)->False:=by
 intro ys
 induction ys with
 | nil=>intro xs c h;exact absurd rfl h
 | cons y0 ys ih=>
  intro xs c _ hlen hy hx hd hc hs
  obtain _ | ⟨x0,xs⟩:=xs
  · simp at hlen
  have hx0:=hd x0 (by simp)
  have e0:=hs x0 (by simp)
  rw [List.map_cons,xsum]at e0
  by_cases hnil:ys=[]
  · subst hnil
    rw [List.map_nil,xsum,UInt8.xor_zero]at e0
    exact inv8_nz _ (xor8_ne (fun e=>hx0 (by simp [e]))) (mul8_nz _ _ (hc y0 (by simp)) e0)
  · refine ih xs (fun y=>mul8 (c y) (mul8 (y ^^^ y0) (inv8 (x0 ^^^ y)))) hnil (by simpa using hlen) (List.nodup_cons.1 hy).2 (List.nodup_cons.1 hx).2 (fun x h=>fun h2=>hd x (by simp [h]) (by simp [h2])) ?_ ?_
    · intro y h e
      have h1:=mul8_nz _ _ (hc y (by simp [h])) e
      have h2:=mul8_nz _ _ (xor8_ne (fun e:y=y0=>(List.nodup_cons.1 hy).1 (e ▸ h))) h1
      exact inv8_nz _ (xor8_ne (fun e=>hx0 (by simp [e,h]))) h2
    · intro x h
      have e1:=hs x (by simp [h])
      rw [List.map_cons,xsum]at e1
      have hne:x ^^^ x0≠0:=xor8_ne (fun e:x=x0=>(List.nodup_cons.1 hx).1 (e ▸ h))
      refine mul8_nz _ _ hne ?_
      have m:∀ z,z∈x0::xs->mul8 (z ^^^ y0) (mul8 (c y0) (inv8 (z ^^^ y0)))=c y0:=by
       intro z hz
       rw [mul8_left,mul8_inv _ (xor8_ne (fun e=>hd z hz (by simp [e]))),mul8_one]
      have f0:=congrArg (mul8 (x0 ^^^ y0)) e0
      have f1:=congrArg (mul8 (x ^^^ y0)) e1
      rw [mul8_xor,m x0 (by simp),mul8_zero,xsum_mul,List.map_map]at f0
      rw [mul8_xor,m x (by simp [h]),mul8_zero,xsum_mul,List.map_map]at f1
      have f2:=congr (congrArg (· ^^^ ·) f1) f0
      simp only [UInt8.xor_zero]at f2
      rw [xor4,UInt8.xor_self,UInt8.zero_xor,xsum_add]at f2
      rw [xsum_mul,List.map_map,<- f2]
      congr 1
      refine List.map_congr_left fun y hyy=>?_
      simp only [Function.comp]
      have ha:x ^^^ y≠0:=xor8_ne (fun e=>hd x (by simp [h]) (by simp [e,hyy]))
      have hb:x0 ^^^ y≠0:=xor8_ne (fun e=>hx0 (by simp [e,hyy]))
      have q1:x ^^^ x0=(x ^^^ y) ^^^ (x0 ^^^ y):=by rw [xor4,UInt8.xor_self,UInt8.xor_zero]
      have q2:x ^^^ y0=(x ^^^ y) ^^^ (y ^^^ y0):=by rw [UInt8.xor_assoc,<- UInt8.xor_assoc y,UInt8.xor_self,UInt8.zero_xor]
      have q3:x0 ^^^ y0=(x0 ^^^ y) ^^^ (y ^^^ y0):=by rw [UInt8.xor_assoc,<- UInt8.xor_assoc y,UInt8.xor_self,UInt8.zero_xor]
      rw [q1,q2,q3]
      generalize x ^^^ y=a at *
      generalize x0 ^^^ y=b at *
      generalize y ^^^ y0=d at *
      generalize c y=g at *
      exact cauchy_id a b d g ha hb
end Go.Fk
