/- Parts of the proof of ArchPacks: SpecG SpecN SpecQ SpecZ SpecK SpecW SpecH SpecK2 SpecY SpecY2 SpecC SpecE SpecR SpecS SpecS2 SpecS3 SpecS4. -/
set_option linter.unusedVariables false
set_option linter.unusedSectionVars false
set_option linter.unusedSimpArgs false
set_option maxHeartbeats 8000000
namespace Go.Fk
abbrev agQb:=@Nat.le_refl
abbrev anQb:=@List.length_append
abbrev aqQb:=@Nat.le_trans
abbrev apQb:=@Nat.zero_le
abbrev ah:=@if_neg
abbrev bo:=@List.getElem?_eq_getElem
abbrev aiQb:=@if_pos
abbrev aH:=@List.getElem_mem
abbrev cL:=@List.take_succ_eq_append_getElem
abbrev cD:=@List.getD_eq_getElem?_getD
abbrev aV:=@List.length_take
abbrev cM:=@List.drop_eq_getElem_cons
abbrev bgQb:=@List.length_cons
abbrev bi:=@decide_eq_false
abbrev b7Qb:=@Nat.mul_le_mul
abbrev bN:=@List.length_drop
abbrev cuQb:=@List.take_length
abbrev eW:=@List.getElem_append_left
abbrev eC:=@Nat.pow_le_pow_right
abbrev ibQb:=@List.eq_nil_of_length_eq_zero
abbrev fj:=@List.take_succ_cons
abbrev crQb:=@Nat.add_mul
abbrev fi:=@decide_eq_true_eq
abbrev cX:=@Nat.add_zero
abbrev gJ:=@List.getElem?_eq_none
abbrev f8:=@Bool.and_eq_true
abbrev fN:=@List.map_append
abbrev iw:=@Nat.xor_lt_two_pow
abbrev eA:=@Nat.pow_succ
abbrev iT:=@List.map_congr_left
abbrev gq:=@UInt8.toNat_inj
abbrev fy:=@List.mem_cons
abbrev gI:=@List.nil_append
abbrev fLQb:=@List.map_cons
abbrev gH:=@List.take_zero
abbrev fK:=@Nat.mul_comm
abbrev jL:=@UInt8.toNat_ofNat'
abbrev jNQb:=@Nat.lt_of_lt_of_le
abbrev kIQb:=@List.take_append_drop
abbrev fJQb:=@Nat.one_mul
abbrev gtQb:=@List.mem_map
abbrev jt:=@List.range_succ
abbrev ju:=@List.mem_append
abbrev ly:=@List.flatten_append
abbrev kf:=@Nat.two_pow_pos
abbrev kL:=@List.ext_getElem
abbrev mN:=@List.length_singleton
abbrev kg:=@List.mem_range
abbrev lU:=@Nat.eq_zero_or_pos
abbrev lW:=@List.pairwise_cons
abbrev lq:=@Nat.div_eq_of_lt
abbrev kd:=@Nat.xor_assoc
abbrev kH:=@UInt8.toNat_lt
abbrev lS:=@Nat.mul_left_comm
abbrev lT:=@Nat.lt_trichotomy
abbrev oi:=@Nat.div_div_eq_div_mul
abbrev lx:=@List.length_set
abbrev pR:=@List.pairwise_iff_getElem
abbrev pI:=@decide_eq_false_iff_not
abbrev mP:=@List.foldl_append
abbrev lZ:=@List.cons.injEq
abbrev pU:=@List.drop_of_length_le
abbrev jM:=@Nat.mod_lt
abbrev og:=@Nat.lt_of_le_of_lt
abbrev vH:=@Nat.testBit_eq_decide_div_mod_eq
abbrev lV:=@List.sum_cons
abbrev iRQb:=@and_true
abbrev vQQb:=@List.getElem?_append_right
abbrev pN:=@Nat.mod_eq_of_lt
abbrev mLQb:=@List.map_map
abbrev pV:=@List.countP_cons
abbrev vRQb:=@List.getElem?_append_left
abbrev rX:=@List.getElem_take
abbrev rY:=@List.getElem_drop
abbrev vI:=@Nat.le_div_iff_mul_le
abbrev vJ:=@Nat.div_lt_iff_lt_mul
abbrev vS:=@List.countP_le_length
abbrev rW:=@List.sum_append
abbrev pL:=@Nat.xor_zero
end Go.Fk
namespace Go.Fk
def dE(a:Nat):Nat:=if a<128 then 2*a else(2*a - 256) ^^^ 29
def jE:Nat->Nat->Nat->Nat->Nat
 | 0,_,_,o=>o
 | f+1,a,b,o=>if b=0 then o else jE f (dE a) (b / 2) (if b % 2=1 then o ^^^ a else o)
def aO(a b:Nat):Nat:=jE 8 a b 0
def ja(a b:Nat):Nat->Nat->Nat
 | 0,p=>p
 | f+1,p=>ja a b f (if b / 2 ^ (7 - f) % 2=1 then p ^^^ (a*2 ^ (7 - f))else p)
def ep:Nat->Nat->Nat
 | 0,p=>p
 | f+1,p=>ep f (if p / 2 ^ (f+8) % 2=1 then p ^^^ (285*2 ^ f)else p)
def tU(a b:Nat):Nat:=ep 7 (ja a b 8 0)
def jT:Nat->Nat->Nat->Nat->Nat
 | 0,_,_,o=>o
 | f+1,a,n,o=>if n=0 then o else jT f (aO a a) (n / 2) (if n % 2=1 then aO o a else o)
def fT(a:Nat):Nat:=jT 8 a 254 1
def iN(n:Nat)(p:Nat->Bool):Bool:=
 match n with
 | 0=>true
 | n+1=>p n && iN n p
theorem ka(n:Nat)(p:Nat->Bool)(h:iN n p=true):∀ i,i<n->p i=true:=by
 induction n with
 | zero=>intro i d;omega
 | succ n o=>
  rw [iN,f8]at h;intro i d;by_cases e:i=n;· subst e;exact h.1
  · exact o h.2 i (by omega)
def cT:Nat->Nat->Nat->Nat
 | 0,_,_=>0
 | f+1,a,b=>(if b % 2=1 then a else 0) ^^^ cT f (dE a) (b / 2)
theorem qv(f:Nat):∀ a,cT f a 0=0:=by
 induction f with
 | zero=>intro a;rfl
 | succ f d=>intro a;simp [cT,d]
theorem Fu(f:Nat):∀ a b o,jE f a b o=o ^^^ cT f a b:=by
 induction f with
 | zero=>intro a b o;simp [jE,cT]
 | succ f d=>
  intro a b o;rw [jE,cT];by_cases h:b=0;· subst h;simp [qv]
  · rw [ah h,d];by_cases h2:b % 2=1;· simp [h2,kd]
    · simp [h2]
theorem jV(a b:Nat):aO a b=cT 8 a b:=by unfold aO;rw [Fu];simp
theorem uF(p q k:Nat):((p ^^^ q) / 2 ^ k % 2=1)↔¬((p / 2 ^ k % 2=1)↔(q / 2 ^ k % 2=1)):=by
 have h:=Nat.testBit_xor p q k;rw [vH,vH,vH]at h;by_cases h1:p / 2 ^ k % 2=1 <;> by_cases h2:q / 2 ^ k % 2=1 <;> simp [h1,h2]at h ⊢ <;> exact h
theorem sk(a b c d:Nat):(a ^^^ b) ^^^ (c ^^^ d)=(a ^^^ c) ^^^ (b ^^^ d):=by
 rw [kd,<- kd b c d,Nat.xor_comm b c,kd c b d,<- kd]
theorem Gp(p q k c:Nat):(if(p ^^^ q) / 2 ^ k % 2=1 then(p ^^^ q) ^^^ c else p ^^^ q)=(if p / 2 ^ k % 2=1 then p ^^^ c else p) ^^^ (if q / 2 ^ k % 2=1 then q ^^^ c else q):=by
 have h:=uF p q k;by_cases h1:p / 2 ^ k % 2=1 <;> by_cases h2:q / 2 ^ k % 2=1;· rw [ah (by rw [h];simp [h1,h2]),aiQb h1,aiQb h2,sk,Nat.xor_self,pL]
 · rw [aiQb (by rw [h];simp [h1,h2]),aiQb h1,ah h2,kd,kd,Nat.xor_comm q c]
 · rw [aiQb (by rw [h];simp [h1,h2]),ah h1,aiQb h2,kd]
 · rw [ah (by rw [h];simp [h1,h2]),ah h1,ah h2]
theorem yd(f:Nat):∀ p q,ep f (p ^^^ q)=ep f p ^^^ ep f q:=by
 induction f with
 | zero=>intro p q;rfl
 | succ f d=>intro p q;rw [ep,ep,ep,Gp,d]
theorem Eb(f:Nat):ep f 0=0:=by
 induction f with
 | zero=>rfl
 | succ f d=>rw [ep];simp [d]
def jP:Nat->Nat->Nat
 | 0,a=>a
 | n+1,a=>jP n (dE a)
theorem Ef:iN 256 (fun a=>iN 8 fun i=>ep 7 (a*2 ^ i) == jP i a && decide (jP i a<256))=true:=by decide +kernel
theorem ye(a i:Nat)(d:a<256)(h:i<8):ep 7 (a*2 ^ i)=jP i a/\jP i a<256:=by
 have:=ka 8 _ (ka 256 _ Ef a d) i h;simpa using this
theorem Ed(c:Prop)[Decidable c](p x:Nat):ep 7 (if c then p ^^^ x else p)=ep 7 p ^^^ (if c then ep 7 x else 0):=by
 by_cases h:c;· simp [h,yd]
 · simp [h]
theorem E7(a b:Nat)(d:a<256):∀ (f:Nat),f<=8->∀ p,ep 7 (ja a b f p)=ep 7 p ^^^ cT f (jP (8 - f) a) (b / 2 ^ (8 - f)):=by
 intro f
 induction f with
 | zero=>intro _ p;simp [ja,cT]
 | succ f h=>
  intro A p;rw [ja,h (by omega),Ed,(ye a (7 - f) d (by omega)).1,cT];have o:8 - (f+1)=7 - f:=(by omega);have q:8 - f=(7 - f)+1:=(by omega);have y:∀ n a,jP (n+1) a=dE (jP n a):=by
   intro n
   induction n with
   | zero=>intro a;rfl
   | succ n z=>intro a;rw [jP,z,jP]
  rw [o,q,y,eA,oi,kd]
theorem Ft(a b:Nat)(d:a<256):tU a b=aO a b:=by
 have:=E7 a b d 8 (agQb _) 0;unfold tU;rw [this,Eb,jV];simp [jP]
theorem Cp:iN 256 (fun a=>decide (dE a<256))=true:=by decide +kernel
theorem o8(a:Nat)(d:a<256):dE a<256:=by have:=ka 256 _ Cp a d;simpa using this
theorem xi(f:Nat):∀ a b,a<256->cT f a b<256:=by
 induction f with
 | zero=>intro a b _;simp [cT]
 | succ f d=>intro a b h;rw [cT];have h1:(if b % 2=1 then a else 0)<2 ^ 8:=(by split <;> omega);have h2:cT f (dE a) (b / 2)<2 ^ 8:=d _ _ (o8 a h);exact iw h1 h2
theorem n9(a b:Nat)(d:a<256):aO a b<256:=by rw [jV];exact xi 8 a b d
theorem CW(f:Nat):∀ a b c,cT f a (b ^^^ c)=cT f a b ^^^ cT f a c:=by
 induction f with
 | zero=>intro a b c;simp [cT]
 | succ f d=>
  intro a b c;rw [cT,cT,cT,Nat.xor_div_two,d,sk];congr 1;have h:=uF b c 0;simp only [Nat.pow_zero,Nat.div_one]at h;by_cases h1:b % 2=1 <;> by_cases h2:c % 2=1;· rw [ah (by rw [h];simp [h1,h2]),aiQb h1,aiQb h2,Nat.xor_self]
  · rw [aiQb (by rw [h];simp [h1,h2]),aiQb h1,ah h2,pL]
  · rw [aiQb (by rw [h];simp [h1,h2]),ah h1,aiQb h2,Nat.zero_xor]
  · rw [ah (by rw [h];simp [h1,h2]),ah h1,ah h2,pL]
theorem Fp(a b c:Nat):aO a (b ^^^ c)=aO a b ^^^ aO a c:=by rw [jV,jV,jV,CW]
theorem sL(a:Nat)(d:a<256):dE a=ep 7 (a*2):=(ye a 1 d (by omega)).1.symm
theorem Co(p q:Nat)(d:p<256)(h:q<256):dE (p ^^^ q)=dE p ^^^ dE q:=by
 have o:p ^^^ q<2 ^ 8:=iw d h;rw [sL _ o,sL p d,sL q h,<- yd];congr 1;have:=Nat.shiftLeft_xor_distrib (a:=p) (b:=q) (i:=1);simpa [Nat.shiftLeft_eq] using this
theorem CY(f:Nat):∀ a b,a<256->cT f (dE a) b=dE (cT f a b):=by
 induction f with
 | zero=>intro a b _;rfl
 | succ f h=>intro a b d;have h1:(if b % 2=1 then a else 0)<256:=(by split <;> omega);rw [cT,cT,Co _ _ h1 (xi f _ _ (o8 a d)),h _ _ (o8 a d)];congr 1;split <;> rfl
theorem CZ(f:Nat):∀ a c,c<2 ^ f->cT (f+1) a c=cT f a c:=by
 induction f with
 | zero => intro a c h; have : c = 0 := by omega
           subst this;simp [cT]
 | succ f d=>intro a c h;have e:=d (dE a) (c / 2) (by rw [eA]at h;omega);show(if c % 2=1 then a else 0) ^^^ cT (f+1) (dE a) (c / 2)=(if c % 2=1 then a else 0) ^^^ cT f (dE a) (c / 2);rw [e]
theorem Fs(a b:Nat)(d:a<256)(h:b<256):aO a b=dE (aO a (b / 2)) ^^^ (if b % 2=1 then a else 0):=by
 rw [jV,jV,CZ 7 a (b / 2) (by omega),cT,CY 7 a _ d,Nat.xor_comm]
theorem Gf:iN 256 (fun a=>a == 0 || (decide (fT a<256) && aO a (fT a) == 1 && iN 8 fun k=>aO (fT a) (aO a (2 ^ k)) == 2 ^ k))=true:=by decide +kernel
theorem qZ(a:Nat)(d:a≠0)(o:a<256):fT a<256/\aO a (fT a)=1/\∀ k,k<8->aO (fT a) (aO a (2 ^ k))=2 ^ k:=by
 have:=ka 256 _ Gf a o;simp only [Bool.or_eq_true,f8,beq_iff_eq,fi]at this;rcases this with h | ⟨⟨h1,h2⟩,h3⟩;· exact absurd h d
 · exact⟨h1,h2,fun k q=>by simpa using ka 8 _ h3 k q⟩
def jZ(i k:Nat):Nat:=if i / 2 ^ k % 2=1 then 2 ^ k else 0
def pB(i:Nat):Nat:=jZ i 0 ^^^ (jZ i 1 ^^^ (jZ i 2 ^^^ (jZ i 3 ^^^ (jZ i 4 ^^^ (jZ i 5 ^^^ (jZ i 6 ^^^ jZ i 7))))))
theorem I7:iN 256 (fun i=>pB i == i)=true:=by decide +kernel
theorem FK(f:Nat->Nat)(o:∀ p q,f (p ^^^ q)=f p ^^^ f q)(y:f 0=0)(z:∀ k,k<8->f (2 ^ k)=2 ^ k)(i:Nat)(A:i<256):f i=i:=by
 have e:pB i=i:=by simpa using ka 256 _ I7 i A
 have d:∀ k,k<8->f (jZ i k)=jZ i k:=by
  intro k h;unfold jZ;split;· exact z k h
  · exact y
 have:f (pB i)=pB i:=by unfold pB;simp only [o,d 0 (by omega),d 1 (by omega),d 2 (by omega),d 3 (by omega),d 4 (by omega),d 5 (by omega),d 6 (by omega),d 7 (by omega)]
 rwa [e]at this
theorem Gd(a i:Nat)(y:a≠0)(z:a<256)(A:i<256)(h:aO a i=1):i=fT a:=by
 obtain⟨h1,h2,h3⟩:=qZ a y z;have key:∀ j,j<256->aO (fT a) (aO a j)=j:=fun j D=>FK (fun j=>aO (fT a) (aO a j)) (fun p q=>by simp only [Fp]) (by show aO _ (aO a 0)=0;rw [jV a 0,qv,jV,qv]) h3 j D;have d:=key i A;have o:=key (fT a) h1;rw [h]at d;rw [h2]at o;exact d.symm.trans o
theorem yD(a:Nat):aO a 0=0:=by rw [jV,qv]
theorem Da(f:Nat):∀ b,cT f 0 b=0:=by
 induction f with
 | zero=>intro b;rfl
 | succ f d=>intro b;rw [cT,show dE 0=0 from rfl,d];simp
theorem yB(b:Nat):aO 0 b=0:=by rw [jV,Da]
theorem Ge(a:Nat)(d:a≠0)(o:a<256):1<=fT a:=by
 have:=(qZ a d o).2.1;rcases lU (fT a)with h | h;· rw [h,yD]at this;cases this
 · exact h
def ao(x:Nat):List UInt8:=if h:x<128 then [UInt8.ofNat x]else UInt8.ofNat (128+x % 128)::ao (x / 128)
termination_by x
theorem qR(x:Nat)(h:x<128):ao x=[UInt8.ofNat x]:=by rw [ao,dif_pos h]
theorem tS(x:Nat)(h:¬x<128):ao x=UInt8.ofNat (128+x % 128)::ao (x / 128):=by rw [ao,dif_neg h]
theorem Fl(k:Nat):∀ x,x<128 ^ (k+1)->(ao x).length<=k+1:=by
 induction k with
 | zero=>intro x h;rw [qR x (by omega)];simp
 | succ k d=>
  intro x h;by_cases h1:x<128;· rw [qR x h1];simp
  · rw [tS x h1];have:=d (x / 128) (by rw [eA]at h;exact Nat.div_lt_of_lt_mul (by rw [fK];exact h));simp;omega
theorem aG(x:Nat)(h:x<18446744073709551616):(ao x).length<=10:=
 Fl 9 x (jNQb h (by decide))
def cZ(s:List UInt8):List UInt8:=ao s.length++s
def bl:Nat->Nat->List UInt8
 | 0,_=>[]
 | n+1,x=>UInt8.ofNat (x % 256)::bl n (x / 256)
theorem jk(n:Nat):∀ x,(bl n x).length=n:=by
 induction n with
 | zero=>intro x;rfl
 | succ n d=>intro x;simp [bl,d]
theorem GD(n:Nat):∀ (x i:Nat) (h:i<n),(bl n x)[i]'(by rw [jk];exact h)=UInt8.ofNat (x / 256 ^ i % 256):=by
 induction n with
 | zero=>intro x i h;omega
 | succ n d=>
  intro x i h
  cases i with
  | zero=>simp [bl]
  | succ i=>have:=d (x / 256) i (by omega);simp only [bl,List.getElem_cons_succ];rw [this,oi,eA,fK]
def eG(d:Nat):Nat:=if d<9223372036854775808 then 2*d else 2*(18446744073709551615 - d)+1
def aQ{α:Type}(f:α->Nat)(l:List α):Nat:=(l.map f).sum
theorem so{α:Type}(f:α->Nat)(l:List α)(k:Nat)(h:k<l.length):aQ f (l.take (k+1))=aQ f (l.take k)+f l[k]:=by
 unfold aQ;rw [cL h,fN,rW];simp
theorem kk{α:Type}(f:α->Nat)(m:Nat)(l:List α)(h:∀ x∈l,f x<=m):aQ f l<=l.length*m:=by
 induction l with
 | nil=>simp [aQ]
 | cons x l d=>have h1:=h x (List.mem_cons_self ..);have h2:=d (fun y o=>h y (List.mem_cons_of_mem _ o));unfold aQ at *;rw [fLQb,lV,bgQb,crQb];omega
theorem pe{α β:Type}(f:α->List β)(l:List α)(k:Nat)(h:k<l.length):((l.take (k+1)).map f).flatten=((l.take k).map f).flatten++f l[k]:=by
 rw [cL h,fN,ly];simp
theorem fU{α β:Type}(f:α->List β)(l:List α):((l.map f).flatten).length=aQ (fun x=>(f x).length) l:=by
 induction l with
 | nil=>rfl
 | cons x l d=>unfold aQ at *;simp [d]
theorem qh{α:Type}(f:α->Nat)(l:List α)(k:Nat):aQ f (l.take k)<=aQ f l:=by
 unfold aQ;conv=>rhs;rw [<- kIQb k l]
 rw [fN,rW];omega
theorem sp{α:Type}(f g:α->Nat)(l:List α)(h:∀ x∈l,f x<=g x):aQ f l<=aQ g l:=by
 induction l with
 | nil=>exact agQb _
 | cons x l d=>have h1:=h x (List.mem_cons_self ..);have h2:=d (fun y o=>h y (List.mem_cons_of_mem _ o));unfold aQ at *;simp only [fLQb,lV];omega
def eu{α:Type}(S:Nat)(f:α->Nat):Nat->Nat->List α->List Nat
 | c,_,[]=>[c]
 | c,h,r::l=>if h+f r<=S then eu S f (c+1) (h+f r) l else c::eu S f 1 (f r) l
def aT{α:Type}(S:Nat)(f:α->Nat):List α->List Nat
 | []=>[]
 | r::l=>eu S f 1 (f r) l
theorem G3{α:Type}(S:Nat)(f:α->Nat)(l:List α):∀ c h,(eu S f c h l).sum=c+l.length:=by
 induction l with
 | nil=>intro c h;simp [eu]
 | cons r l d=>
  intro c h;rw [eu];split;· rw [d,bgQb];omega
  · rw [lV,d,bgQb];omega
theorem m7{α:Type}(S:Nat)(f:α->Nat)(l:List α):(aT S f l).sum=l.length:=by
 cases l with
 | nil=>rfl
 | cons r l=>rw [aT,G3,bgQb];omega
theorem G4{α:Type}(S:Nat)(f:α->Nat)(l:List α):∀ c h,1<=c->∀ x∈eu S f c h l,1<=x:=by
 induction l with
 | nil=>intro c h o x d;simp [eu]at d;omega
 | cons r l q=>
  intro c h o x d;rw [eu]at d;split at d;· exact q _ _ (by omega) x d
  · rcases fy.1 d with rfl | d;· exact o
    · exact q _ _ (agQb _) x d
def kB(t d:Nat):Nat:=(t+18446744073709551616 - d) % 18446744073709551616
theorem ur(t d:Nat):kB t d<18446744073709551616:=jM _ (by decide)
def gd:Nat->List Nat->List UInt8
 | _,[]=>[]
 | d,t::l=>ao (eG (kB t d))++gd t l
def eh:UInt8->Nat->List UInt8->List UInt8
 | x,c,[]=>x::ao c
 | x,c,y::l=>if y=x then eh x (c+1) l else(x::ao c)++eh y 1 l
def dG:List UInt8->List UInt8
 | []=>[]
 | x::l=>eh x 1 l
theorem yR(l:List UInt8)(k:Nat)(h:k<l.length):dG (l.drop k)=eh l[k] 1 (l.drop (k+1)):=by rw [cM h];rfl
theorem tX(x:UInt8)(c:Nat)(l:List UInt8)(k:Nat)(h:k<l.length)(e:l[k]=x):eh x c (l.drop k)=eh x (c+1) (l.drop (k+1)):=by rw [cM h,eh,aiQb e]
theorem tY(x:UInt8)(c:Nat)(l:List UInt8)(k:Nat)(h:k<l.length)(e:l[k]≠x):eh x c (l.drop k)=(x::ao c)++dG (l.drop k):=by rw [cM h,eh,ah e];rfl
theorem tZ(x:UInt8)(c:Nat)(l:List UInt8)(k:Nat)(h:l.length<=k):eh x c (l.drop k)=(x::ao c)++dG (l.drop k):=by rw [pU h];simp [eh,dG]
theorem Cv(l:List Nat):∀ d,(gd d l).length<=l.length*10:=by
 induction l with
 | nil=>intro d;simp [gd]
 | cons t l h=>intro d;have h1:=h t;have h2:=aG (eG (kB t d)) (by have:=ur t d;unfold eG;split <;> omega);rw [gd,anQb,bgQb];omega
theorem F9(l:List UInt8):∀ x c,c+l.length<=1000000->(eh x c l).length<=(l.length+1)*11:=by
 induction l with
 | nil=>intro x c d;have:=aG c (by simp at d;omega);simp [eh];omega
 | cons y l h=>
  intro x c d;rw [bgQb]at d;rw [eh];split;· have:=h x (c+1) (by omega);rw [bgQb];omega
  · have h1:=h y 1 (by omega);have h2:=aG c (by omega);rw [anQb,bgQb,bgQb];omega
theorem FL(l:List UInt8)(h:l.length<=900000):(dG l).length<=l.length*11:=by
 cases l with
 | nil=>simp [dG]
 | cons x l=>have:=F9 l x 1 (by rw [bgQb]at h;omega);rw [dG,bgQb];exact this
structure bF where
 lit:UInt8
 len:Nat
 dist:Nat
 deriving DecidableEq
instance:Inhabited bF:=⟨⟨0,0,0⟩⟩
def dC(b:List UInt8):Nat->Nat->Nat->Nat
 | _,_,0=>0
 | f,a,n+1=>if a<b.length/\b[f]? = b[a]? then dC b (f+1) (a+1) n+1 else 0
def fx(b:List UInt8)(f a:Nat):Nat:=dC b f a 257
theorem uT(b:List UInt8):∀ n f a,dC b f a n<=n:=by
 intro n
 induction n with
 | zero=>intro f a;exact agQb _
 | succ n d=>intro f a;have:=d (f+1) (a+1);rw [dC];split <;> omega
theorem AF(b:List UInt8):∀ n f a,a<=b.length->a+dC b f a n<=b.length:=by
 intro n
 induction n with
 | zero=>intro f a h;exact h
 | succ n d=>
  intro f a h;rw [dC];split;· rename_i h1;have:=d (f+1) (a+1) (by omega);omega
  · exact h
theorem uU(b:List UInt8):∀ n f a,a<=b.length->∀ i,i<dC b f a n->b[f+i]? = b[a+i]?:=by
 intro n
 induction n with
 | zero=>intro f a _ i d;simp [dC]at d
 | succ n o=>
  intro f a h i d;rw [dC]at d;split at d
  · rename_i h1
    cases i with
    | zero=>simpa using h1.2
    | succ i=>have:=o (f+1) (a+1) (by omega) i (by omega);rw [show f+(i+1)=f+1+i by omega,show a+(i+1)=a+1+i by omega];exact this
  · omega
def dV(b:List UInt8)(p:Nat):List UInt8:=(b.drop p).take 3
theorem uS(b:List UInt8)(n f a:Nat)(A:3<=n)(D:f<a):3<=dC b f a n↔(a+3<=b.length/\dV b f=dV b a):=by
 have e:∀ p,p+3<=b.length->dV b p=[b.getD p 0,b.getD (p+1) 0,b.getD (p+2) 0]:=by intro p o;unfold dV;rw [cM (by omega),fj,cM (by omega),fj,cM (by omega),fj,gH];simp [cD,bo (show p<b.length by omega),bo (show p+1<b.length by omega),bo (show p+2<b.length by omega)]
 constructor
 · intro h;by_cases d:a<=b.length;· have h1:=AF b n f a d;refine⟨by omega,?_⟩;rw [e f (by omega),e a (by omega)];have q:=uU b n f a d 0 (by omega);have y:=uU b n f a d 1 (by omega);have z:=uU b n f a d 2 (by omega);simp only [cX]at q;simp only [cD,q,y,z]
   · obtain⟨m,rfl⟩:∃ m,n=m+1:=⟨n - 1,by omega⟩;rw [dC,ah (by omega)]at h;omega
 · rintro⟨h1,h2⟩;rw [e f (by omega),e a (by omega)]at h2;simp only [lZ,iRQb]at h2;have g:∀ p,p<b.length->b[p]? = some (b.getD p 0):=fun p o=>(by rw [cD,bo o];rfl);obtain⟨m,rfl⟩:∃ m,n=m+3:=⟨n - 3,by omega⟩;rw [dC, aiQb ⟨by omega, by rw [g _ (by omega), g _ (by omega), h2.1]⟩, dC, aiQb ⟨by omega, by rw [g _ (by omega), g _ (by omega), h2.2.1]⟩, dC, aiQb ⟨by omega, by
    rw [show f + 1 + 1 = f + 2 by omega, show a + 1 + 1 = a + 2 by omega, g _ (by omega), g _ (by omega), h2.2.2]⟩]
   omega
def jR(b:List UInt8)(d:Nat)(s:Nat × Nat)(h:Nat):Nat × Nat:=if s.1<fx b (d - h) d then(fx b (d - h) d,h)else s
def bI(b:List UInt8)(h:Nat):Nat->Nat × Nat
 | 0=>(0,0)
 | d+1=>jR b h (bI b h d) (d+1)
def ea(b:List UInt8)(d:Nat):Nat × Nat:=bI b d (min 4095 d)
theorem nX(b:List UInt8)(a:Nat)(o:a<=b.length):∀ d,(bI b a d).1<=257/\a+(bI b a d).1<=b.length/\(bI b a d).2<=d/\(0<(bI b a d).1->0<(bI b a d).2):=by
 intro d
 induction d with
 | zero=>simp [bI,o]
 | succ d h=>
  rw [bI,jR];split;· refine⟨uT _ _ _ _,AF _ _ _ _ o,agQb _,fun _=>by simp⟩
  · exact⟨h.1,h.2.1,by omega,h.2.2.2⟩
theorem IG(b:List UInt8)(a:Nat)(d e:Nat)(h:d<=e)(o:(bI b a d).1=257):bI b a e=bI b a d:=by
 induction e with
 | zero=>rw [Nat.le_zero.1 h]
 | succ e q=>
  by_cases h1:d=e+1;· rw [h1]
  · rw [bI,jR,q (by omega),ah];rw [o];have:=uT b 257 (a - (e+1)) a;unfold fx;omega
def gV(s t:Nat × Nat):Prop:=(3<=s.1->t=s)/\(s.1<3->t=(0,0))
theorem Af(b:List UInt8)(a d e:Nat)(t:Nat × Nat)(q:d<=e)(h:gV (bI b a d) t)(o:∀ k,d<k->k<=e->¬3<=fx b (a - k) a):gV (bI b a e) t:=by
 induction e with
 | zero=>rw [Nat.le_zero.1 q]at h;exact h
 | succ e y=>
  by_cases h1:d=e+1;· rw [<- h1];exact h
  · have h2:=y (by omega) (fun k a b=>o k a (by omega));have h3:=o (e+1) (by omega) (agQb _);rw [bI,jR];split;· rename_i h4;exact⟨fun h5=>absurd h5 h3,fun _=>h2.2 (by omega)⟩
    · exact h2
theorem Ig(b:List UInt8)(a d:Nat)(t:Nat × Nat)(h:gV (bI b a d) t)(o:3<=fx b (a - (d+1)) a):gV (bI b a (d+1)) (jR b a t (d+1)):=by
 rw [bI];unfold jR;by_cases h3:3<=(bI b a d).1
 · rw [h.1 h3];split;· exact⟨fun _=>rfl,fun h=>by simp at h;omega⟩
   · exact⟨fun _=>rfl,fun h=>by omega⟩
 · rw [h.2 (by omega),aiQb (by omega),aiQb (by simp;omega)];exact⟨fun _=>rfl,fun h=>by simp at h;omega⟩
def fS(b:List UInt8)(key:List UInt8):Nat->Option Nat
 | 0=>none
 | n+1=>if n+3<=b.length/\dV b n=key then some n else fS b key n
theorem oT(b key:List UInt8)(n p:Nat)(h:fS b key n=some p):p<n/\p+3<=b.length/\dV b p=key/\∀ q,p<q->q<n->q+3<=b.length->dV b q≠key:=by
 induction n with
 | zero=>cases h
 | succ n o=>
  rw [fS]at h;split at h;· rename_i h1;cases h;exact⟨by omega,h1.1,h1.2,fun q a b=>by omega⟩
  · rename_i h1;obtain⟨D,y,z,A⟩:=o h;refine⟨by omega,y,z,fun q a c d=>?_⟩;by_cases e:q=n;· subst e;exact fun k=>h1 ⟨d,k⟩
    · exact A q a (by omega) d
theorem yX(b key:List UInt8)(n:Nat)(h:fS b key n=none):∀ q,q<n->q+3<=b.length->dV b q≠key:=by
 induction n with
 | zero=>intro q y;omega
 | succ n o=>
  rw [fS]at h;split at h;· cases h
  · rename_i h1;intro q a d;by_cases e:q=n;· subst e;exact fun k=>h1 ⟨d,k⟩
    · exact o h q (by omega) d
def iZ(b:List UInt8)(p:Nat):Option Nat:=if p+3<=b.length then fS b (dV b p) p else none
theorem Ih(b:List UInt8)(a d p:Nat)(t:Nat × Nat)(q:a+3<=b.length)(F:d<=a)(y:fS b (dV b a) (a - d)=some p)(h:gV (bI b a d) t) :
  gV (bI b a (a - p)) (jR b a t (a - p))/\p<a - d/\iZ b p=fS b (dV b a) (a - (a - p)):=by
 obtain⟨z,A,o,D⟩:=oT _ _ _ _ y;have h1 := Af b a d (a - p - 1) t (by omega) h (fun k G I k3 => by
  have := (uS b 257 (a - k) a (by omega) (by omega)).1 k3
  exact D (a - k) (by omega) (by omega) (by omega) this.2)
 have h2:=Ig b a (a - p - 1) t h1 ((uS b 257 _ a (by omega) (by omega)).2 ⟨q,by rw [show a - (a - p - 1+1)=p by omega];exact o⟩);rw [show a - p - 1+1=a - p by omega]at h2;refine⟨h2,z,?_⟩;unfold iZ;rw [aiQb A,o,show a - (a - p)=p by omega]
theorem rG(b:List UInt8)(a d:Nat)(t:Nat × Nat)(y:d<=min 4095 a)(h:gV (bI b a d) t)
  (o:(bI b a d).1=257\/∀ q,q<a - d->a - q<=4095->dV b q≠dV b a):gV (ea b a) t:=by
 unfold ea;rcases o with o | o;· rw [IG b a d _ y o];exact h
 · exact Af b a d _ t y h fun k z A k3=>o (a - k) (by omega) (by omega) ((uS b 257 (a - k) a (by omega) (by omega)).1 k3).2
theorem IF(b:List UInt8)(a:Nat)(d:b.length<a+3)(h:a<=b.length):(ea b a).1<3:=by
 have:=(nX b a h (min 4095 a)).2.1;unfold ea;omega
def fu(b:List UInt8)(a:Nat):List bF:=
 if h : a < b.length then
  if h3:3<=(ea b a).1 then⟨0,(ea b a).1,(ea b a).2⟩::fu b (a+(ea b a).1)
  else⟨b[a],0,0⟩::fu b (a+1)
 else []
termination_by b.length - a
def dN(b:List UInt8):List bF:=fu b 0
theorem rn(b:List UInt8)(a:Nat)(h:b.length<=a):fu b a=[]:=by rw [fu,dif_neg (by omega)]
theorem rl(b:List UInt8)(a:Nat)(h:a<b.length)(h3:3<=(ea b a).1):fu b a=⟨0,(ea b a).1,(ea b a).2⟩::fu b (a+(ea b a).1):=by rw [fu,dif_pos h,dif_pos h3]
theorem rm(b:List UInt8)(a:Nat)(h:a<b.length)(h3:¬3<=(ea b a).1):fu b a=⟨b[a],0,0⟩::fu b (a+1):=by rw [fu,dif_pos h,dif_neg h3]
def ft(t:bF):Bool:=if t.len=0 then decide (t.dist=0)else decide (t.lit=0) && decide (3<=t.len) && decide (t.len<=257) && decide (1<=t.dist) && decide (t.dist<=4095)
theorem zr(b:List UInt8)(a:Nat):∀ t∈fu b a,ft t=true:=by
 induction a using fu.induct (b:=b)with
 | case1 a h h3 o=>
  rw [rl b a h h3];intro t d;rcases fy.1 d with rfl | d;· have:=nX b a (by omega) (min 4095 a);unfold ea at *;unfold ft;rw [ah (by simp;omega)];simp only [f8,fi];refine⟨⟨⟨⟨trivial,?_⟩,?_⟩,?_⟩,?_⟩ <;> omega
  · exact o t d
 | case2 a h h3 o=>
  rw [rm b a h h3];intro t d;rcases fy.1 d with rfl | d;· simp [ft]
  · exact o t d
 | case3 a h=>rw [rn b a (by omega)];intro t d;cases d
theorem zt(b:List UInt8)(a:Nat):(fu b a).length<=b.length - a:=by
 induction a using fu.induct (b:=b)with
 | case1 a h h3 d=>rw [rl b a h h3,bgQb];omega
 | case2 a h h3 d=>rw [rm b a h h3,bgQb];omega
 | case3 a h=>rw [rn b a (by omega)];simp
def aF(d:List UInt8)(l:Nat):Nat:=d.countP fun c=>c.toNat == l
theorem lM(d:List UInt8)(l:Nat):aF d l<=d.length:=vS
theorem nN(l:Nat):aF [] l=0:=rfl
theorem Ab(a b:List UInt8)(l:Nat):aF (a++b) l=aF a l+aF b l:=by simp [aF]
theorem u9(c:UInt8)(b:List UInt8)(l:Nat):aF (c::b) l=aF b l+if c.toNat=l then 1 else 0:=by
 simp [aF,pV]
theorem m8(d:List UInt8)(k l:Nat)(h:k<d.length):aF (d.take (k+1)) l=aF (d.take k) l+if d[k].toNat=l then 1 else 0:=by
 rw [cL h,Ab,u9,nN];omega
theorem Aa(d:List UInt8)(k l:Nat):aF (d.take k) l<=aF d l:=by
 conv=>rhs;rw [<- kIQb k d]
 rw [Ab];omega
def dz(d:List UInt8):Nat->Nat
 | 0=>0
 | 1=>0
 | l+2=>2*(dz d (l+1)+aF d (l+1))
theorem rk(d:List UInt8)(l:Nat)(h:1<=l):dz d (l+1)=2*(dz d l+aF d l):=by
 obtain⟨k,rfl⟩:∃ k,l=k+1:=⟨l - 1,by omega⟩;rfl
theorem zq(d:List UInt8)(l:Nat):dz d l+2*d.length<=d.length*2 ^ (l+1):=by
 induction l with
 | zero=>simp [dz];omega
 | succ l o=>
  rcases lU l with rfl | h;· simp [dz];omega
  · rw [rk d l h];have:=lM d l;have e:d.length*2 ^ (l+1+1)=2*(d.length*2 ^ (l+1)):=(by rw [eA 2 (l+1)];simp [fK,lS]);rw [e];omega
def bp(d:List UInt8)(l s:Nat):Nat:=dz d l+aF (d.take s) l
theorem wC(d:List UInt8)(l s:Nat)(o:l<=15)(h:d.length<=300):bp d l s<=20000000:=by
 have h1:=zq d l;have h2:=Aa d s l;have h3:=lM d l;have h4:d.length*2 ^ (l+1)<=300*2 ^ 16:=b7Qb h (eC (by omega) (by omega));unfold bp;omega
theorem sA(d:List UInt8)(l:Nat):bp d l 0=dz d l:=by simp [bp,nN]
theorem qk(d:List UInt8)(l s:Nat)(h:s<d.length):bp d l (s+1)=bp d l s+if d[s].toNat=l then 1 else 0:=by
 unfold bp;rw [m8 _ _ _ h];omega
theorem BZ(d:List UInt8)(l:Nat)(h:1<=l):bp d (l+1) 0=2*bp d l d.length:=by
 rw [sA,rk _ _ h,bp,cuQb]
def cg(d:List UInt8):List Nat:=d.mapIdx fun s c=>if c=0 then 0 else bp d c.toNat s % 65536
theorem gU(d:List UInt8):(cg d).length=d.length:=by simp [cg]
theorem py(d:List UInt8)(s:Nat)(h:s<d.length):(cg d)[s]'(by rw [gU];exact h)=if d[s]=0 then 0 else bp d d[s].toNat s % 65536:=by simp [cg]
def dH(d:List UInt8):Nat:=(d.map fun c=>if c=0 then 0 else 2 ^ (15 - c.toNat)).sum
theorem oU(c:UInt8)(l:List UInt8):dH (c::l)=(if c=0 then 0 else 2 ^ (15 - c.toNat))+dH l:=rfl
theorem FY(a b:List UInt8):dH (a++b)=dH a+dH b:=by simp [dH]
theorem FV(d:List UInt8)(k:Nat)(h:k<d.length):dH (d.take (k+1))=dH (d.take k)+if d[k]=0 then 0 else 2 ^ (15 - d[k].toNat):=by
 rw [cL h,FY,oU];simp [dH]
theorem FW(d:List UInt8):dH d<=d.length*16384:=by
 induction d with
 | nil=>simp [dH]
 | cons c l o=>
  rw [oU,bgQb];have:(if c=0 then 0 else 2 ^ (15 - c.toNat))<=16384:=by
   split;· omega
   · rename_i h;have q:c.toNat≠0:=fun e=>h (gq.1 (by simpa using e));have:2 ^ (15 - c.toNat)<=2 ^ 14:=eC (by omega) (by omega);omega
  omega
def bV(f:Nat->Nat):Nat->Nat
 | 0=>0
 | l+1=>bV f l+f (l+1)
theorem xu(f g:Nat->Nat)(l:Nat):bV (fun k=>f k+g k) l=bV f l+bV g l:=by
 induction l with
 | zero=>rfl
 | succ l d=>simp only [bV,d];omega
theorem xm(l:Nat):bV (fun _=>0) l=0:=by induction l with | zero=>rfl | succ l d=>simp [bV,d]
theorem xo(c v:Nat)(l:Nat):bV (fun k=>if c=k then v else 0) l=if 1<=c/\c<=l then v else 0:=by
 induction l with
 | zero=>simp [bV];omega
 | succ l d=>
  rw [bV,d];by_cases h1:c=l+1;· subst h1;rw [ah (by omega),aiQb rfl,aiQb (by omega)];omega
  · rw [ah h1];by_cases h2:1<=c/\c<=l;· rw [aiQb h2,aiQb (by omega)];omega
    · rw [ah h2,ah (by omega)]
theorem xt(f g:Nat->Nat)(l:Nat)(h:∀ k,1<=k->k<=l->f k=g k):bV f l=bV g l:=by
 induction l with
 | zero=>rfl
 | succ l d=>rw [bV,bV,d (fun k a b=>h k a (by omega)),h (l+1) (by omega) (by omega)]
theorem xj(d:List UInt8)(h:∀ c∈d,c.toNat<=15):bV (fun l=>aF d l*2 ^ (15 - l)) 15=dH d:=by
 induction d with
 | nil=>simp [nN,dH,xm]
 | cons c d y=>
  have q:=h c (by simp);rw [oU,<- y (fun c q=>h c (by simp [q]))];rw [xt (fun l => aF (c :: d) l * 2 ^ (15 - l)) (fun l => (aF d l * 2 ^ (15 - l)) + if c.toNat = l then 2 ^ (15 - c.toNat) else 0) 15 (fun k _ _ => by
   rw [u9, crQb];by_cases e : c.toNat = k;· rw [aiQb e, aiQb e, e]; omega
   · rw [ah e, ah e]; omega)]
  rw [xu,xo];by_cases o:c=0;· subst o;simp
  · have z:c.toNat≠0:=fun e=>o (gq.1 (by simpa using e));rw [aiQb (by omega),ah o];omega
def ee(d:List UInt8):Nat:=d.countP fun c=>c != 0
theorem BH(d:List UInt8):ee d<=d.length:=vS
theorem CX(d:List UInt8)(h:∀ c∈d,c.toNat<=15):bV (aF d) 15=ee d:=by
 induction d with
 | nil=>exact xm 15
 | cons c d y=>
  have q:=h c (by simp);rw [xt (aF (c::d)) (fun l=>aF d l+if c.toNat=l then 1 else 0) 15 (fun k _ _=>u9 c d k),xu,xo,y (fun c q=>h c (by simp [q]))];unfold ee;rw [pV];by_cases o:c=0;· subst o;simp
  · have z:c.toNat≠0:=fun e=>o (gq.1 (by simpa using e));simp [o];omega
def cH(d:List UInt8):Bool:=decide (ee d=0) || decide (dH d=32768) || (decide (ee d=1) && decide (aF d 1=1))
theorem GE(d:List UInt8):∀ l,l<=15->(dz d l+(if l=0 then 0 else aF d l))*2 ^ (15 - l)=bV (fun k=>aF d k*2 ^ (15 - k)) l:=by
 intro l
 induction l with
 | zero=>intro _;simp [dz,bV]
 | succ l o=>
  intro h;rw [bV,<- o (by omega),ah (by omega)];rcases lU l with rfl | q;· simp [dz]
  · rw [rk _ _ q,ah (by omega),show 15 - l=(15 - (l+1))+1 by omega,eA,crQb (2*_)];simp only [Nat.mul_assoc,fK,lS]
theorem Db(f:Nat->Nat)(a b:Nat)(h:a<=b):bV f a<=bV f b:=by
 induction b with
 | zero=>rw [Nat.le_zero.1 h];exact agQb _
 | succ b d=>
  by_cases e:a=b+1;· rw [e];exact agQb _
  · rw [bV];have:=d (by omega);omega
theorem EY(o:List UInt8)(h:cH o=true):dH o<=32768:=by
 unfold cH at h;simp only [Bool.or_eq_true,f8,fi]at h;rcases h with(h | h) | ⟨h,_⟩
 · have:∀ l:List UInt8,ee l=0->dH l=0:=by
     intro l
     induction l with
     | nil=>intro _;rfl
     | cons c l q=>
      intro e;unfold ee at e;rw [pV]at e
      have y : c = 0 := by by_cases d : c = 0; · exact d
                           · simp [d]at e
      rw [oU,aiQb y,q (by unfold ee;omega)]
   rw [this o h];omega
 · omega
 · have:∀ l:List UInt8,ee l<=1->dH l<=ee l*16384:=by
     intro l
     induction l with
     | nil=>intro _;simp [dH]
     | cons c l q=>
      intro e;unfold ee at e ⊢;rw [pV]at e ⊢;rw [oU];have z:=q (by unfold ee;omega);unfold ee at z;by_cases d:c=0;· simp [d];omega
      · have A:c.toNat≠0:=fun e=>d (gq.1 (by simpa using e));have:2 ^ (15 - c.toNat)<=2 ^ 14:=eC (by omega) (by omega);simp [d]at *;omega
   have:=this o (by omega);omega
theorem BY(d:List UInt8)(z:cH d=true)(o:∀ c∈d,c.toNat<=15)(s:Nat)(h:s<d.length)(A:d[s]≠0):bp d d[s].toNat s<2 ^ d[s].toNat:=by
 have h1:=EY d z;have q:=o _ (aH h);have D:d[s].toNat≠0:=fun e=>A (gq.1 (by simpa using e));have F:=qk d d[s].toNat s h;rw [aiQb rfl]at F;have J:=Aa d (s+1) d[s].toNat;have y:=GE d d[s].toNat q;rw [ah D]at y;have G:=Db (fun k=>aF d k*2 ^ (15 - k)) d[s].toNat 15 q;rw [xj d o,<- y]at G;have h2:bp d d[s].toNat (s+1)<=dz d d[s].toNat+aF d d[s].toNat:=by unfold bp;omega
 have h3:(2:Nat) ^ d[s].toNat*2 ^ (15 - d[s].toNat)=32768:=by rw [<- Nat.pow_add,show d[s].toNat+(15 - d[s].toNat)=15 by omega]
 have I:=kf (15 - d[s].toNat);have h4:(dz d d[s].toNat+aF d d[s].toNat)*2 ^ (15 - d[s].toNat)<=2 ^ d[s].toNat*2 ^ (15 - d[s].toNat):=by omega
 have h5:=Nat.le_of_mul_le_mul_right h4 I;omega
def aW(x:Nat):Nat->List UInt8
 | 0=>[]
 | n+1=>UInt8.ofNat (x / 2 ^ n % 2)::aW x n
theorem jm(x n:Nat):(aW x n).length=n:=by induction n with | zero=>rfl | succ n d=>simp [aW,d]
def kE(l:List UInt8):Prop:=∀ c∈l,c=0\/c=1
theorem I8(y:Nat):UInt8.ofNat (y % 2)=0\/UInt8.ofNat (y % 2)=1:=by
 rcases Nat.mod_two_eq_zero_or_one y with h | h <;> rw [h] <;> simp
theorem kE.app{a b:List UInt8}(h1:kE a)(h2:kE b):kE (a++b):=by
 intro c d;rcases ju.1 d with h | h;· exact h1 c h
 · exact h2 c h
def gK(n:Nat):List UInt8:=List.replicate n 0++[1]
def em(l:List UInt8)(i:Nat):Nat:=(l.getD i 0).toNat
def eP(l:List UInt8)(q:Nat):Nat:=
 em l (8*q)*128+em l (8*q+1)*64+em l (8*q+2)*32+em l (8*q+3)*16+em l (8*q+4)*8+em l (8*q+5)*4+em l (8*q+6)*2+em l (8*q+7)
def bM(l:List UInt8):List UInt8:=(List.range ((l.length+7) / 8)).map fun q=>UInt8.ofNat (eP l q)
theorem jb(l:List UInt8):(bM l).length=(l.length+7) / 8:=by simp [bM]
theorem kC{l:List UInt8}(h:kE l)(i:Nat):em l i<=1:=by
 unfold em;by_cases d:i<l.length;· rw [cD,bo d];rcases h _ (aH d)with e | e <;> simp [e]
 · rw [cD,gJ (by omega)];simp
theorem uD{l:List UInt8}(h:kE l)(q:Nat):eP l q<256:=by
 unfold eP;have d:=kC h (8*q);have h1:=kC h (8*q+1);have h2:=kC h (8*q+2);have h3:=kC h (8*q+3);have h4:=kC h (8*q+4);have h5:=kC h (8*q+5);have o:=kC h (8*q+6);have y:=kC h (8*q+7);omega
theorem jo(l:List UInt8)(i:Nat)(h:l.length<=i):em l i=0:=by
 unfold em;rw [cD,gJ h];rfl
theorem IA(l:List UInt8)(x:UInt8)(i:Nat)(h:i<l.length):em (l++[x]) i=em l i:=by
 unfold em;rw [cD,cD,vRQb h]
theorem IB(l:List UInt8)(x:UInt8):em (l++[x]) l.length=x.toNat:=by
 unfold em;rw [cD,vQQb (agQb _)];simp
theorem li(l:List UInt8)(x:UInt8)(i:Nat)(h:i≠l.length):em (l++[x]) i=em l i:=by
 by_cases d:i<l.length;· exact IA l x i d
 · rw [jo (l++[x]) i (by simp;omega),jo l i (by omega)]
theorem Iw(l:List UInt8)(x:UInt8)(q:Nat)(h:q≠l.length / 8):eP (l++[x]) q=eP l q:=by
 unfold eP;rw [li l x _ (by omega),li l x _ (by omega),li l x _ (by omega),li l x _ (by omega),li l x _ (by omega),li l x _ (by omega),li l x _ (by omega),li l x _ (by omega)]
theorem Ix(l:List UInt8)(x:UInt8):eP (l++[x]) (l.length / 8)=eP l (l.length / 8)+x.toNat*2 ^ (7 - l.length % 8):=by
 obtain⟨q,r,G,z⟩:∃ q r,r<8/\l.length=8*q+r:=⟨l.length / 8,l.length % 8,by omega,by omega⟩;have A:l.length / 8=q:=by omega
 have D:l.length % 8=r:=by omega
 rw [A,D];have o:=IB l x;have y:=jo l l.length (agQb _);rw [z]at o y;have d:=fun i (h:i≠8*q+r)=>li l x i (by rw [z];exact h);unfold eP;have F:r=0\/r=1\/r=2\/r=3\/r=4\/r=5\/r=6\/r=7:=by omega
 rcases F with rfl | rfl | rfl | rfl | rfl | rfl | rfl | rfl <;>
  (try simp only [cX] at o y d
   try rw [d (8 * q) (by omega)]
   try rw [d (8 * q + 1) (by omega)]
   try rw [d (8 * q + 2) (by omega)]
   try rw [d (8 * q + 3) (by omega)]
   try rw [d (8 * q + 4) (by omega)]
   try rw [d (8 * q + 5) (by omega)]
   try rw [d (8 * q + 6) (by omega)]
   try rw [d (8 * q + 7) (by omega)]
   rw [o, y]
   simp only [Nat.reduceSub, Nat.reducePow]
   omega)
theorem Iy{l:List UInt8}(q s:Nat)(y:s<8)(h:l.length<=8*q+(7 - s)):eP l q / 2 ^ s % 2=0:=by
 unfold eP;have o:s=0\/s=1\/s=2\/s=3\/s=4\/s=5\/s=6\/s=7:=by omega
 have d:=fun i (h2:8*q+(7 - s)<=i)=>jo l i (aqQb h h2)
 rcases o with rfl | rfl | rfl | rfl | rfl | rfl | rfl | rfl <;>
  (simp only [Nat.reducePow]
   try rw [d (8 * q) (by omega)]
   try rw [d (8 * q + 1) (by omega)]
   try rw [d (8 * q + 2) (by omega)]
   try rw [d (8 * q + 3) (by omega)]
   try rw [d (8 * q + 4) (by omega)]
   try rw [d (8 * q + 5) (by omega)]
   try rw [d (8 * q + 6) (by omega)]
   try rw [d (8 * q + 7) (by omega)]
   all_goals omega)
theorem EQ:iN 256 (fun y=>iN 8 fun s=>!(y / 2 ^ s % 2 == 0) || (y ||| 2 ^ s) == y+2 ^ s)=true:=by decide +kernel
theorem EP(y s:Nat)(d:y<256)(o:s<8)(h:y / 2 ^ s % 2=0):y ||| 2 ^ s=y+2 ^ s:=by
 have:=ka 8 _ (ka 256 _ EQ y d) s o;simpa [h] using this
theorem EJ(l:List UInt8)(x:UInt8)(y:kE l)(z:x=0\/x=1) :
  bM (l++[x])=((if l.length % 8=0 then bM l++[0]else bM l).set (l.length / 8) (UInt8.ofNat (eP l (l.length / 8) ||| x.toNat*2 ^ (7 - l.length % 8)))):=by
 have A:eP l (l.length / 8) ||| x.toNat*2 ^ (7 - l.length % 8)=eP (l++[x]) (l.length / 8):=by
  rw [Ix];rcases z with rfl | rfl;· simp
  · have D:UInt8.toNat 1=1:=rfl;rw [D,fJQb];exact EP _ _ (uD y _) (by omega) (Iy _ _ (by omega) (by omega))
 rw [A];apply kL
 · rw [jb,lx,anQb,mN];split;· rw [anQb,jb];simp;omega
   · rw [jb];omega
 · intro q h1 h2;have I:q<(l.length+1+7) / 8:=(by rw [jb]at h1;simpa using h1);rw [List.getElem_set];by_cases e:l.length / 8=q;· rw [aiQb e];simp [bM,e]
   · rw [ah e];have F:q<(l.length+7) / 8:=(by omega);have G:(bM (l++[x]))[q]=UInt8.ofNat (eP l q):=(by simp [bM,Iw l x q (fun h=>e h.symm)]);have d:∀ h,(bM l)[q]'h=UInt8.ofNat (eP l q):=fun h=>(by simp [bM]);rw [G];by_cases o:l.length % 8=0;· simp only [aiQb o];rw [eW (by rw [jb];exact F)];exact(d _).symm
     · simp only [ah o];exact(d _).symm
theorem yu(l:List UInt8)(q:Nat)(h:q<(bM l).length):(bM l)[q]=UInt8.ofNat (eP l q):=by simp [bM]
theorem Iv(l:List UInt8)(q:Nat)(h:l.length<=8*q):eP l q=0:=by
 unfold eP;rw [jo l _ (by omega),jo l _ (by omega),jo l _ (by omega),jo l _ (by omega),jo l _ (by omega),jo l _ (by omega),jo l _ (by omega),jo l _ (by omega)]
def fM(d:List UInt8)(s l:Nat):Nat:=if aF (d.take s) l=0 then 0 else dz d l % 65536
def sM(d:List UInt8)(s l:Nat):List Nat:=(List.range s).filter fun i=>(d.getD i 0).toNat == l
theorem D9(d:List UInt8)(l:Nat):sM d 0 l=[]:=rfl
theorem GI(d:List UInt8)(l:Nat):fM d 0 l=0:=by simp [fM,nN]
theorem ti(d:List UInt8)(s l:Nat)(h:s<d.length):sM d (s+1) l=sM d s l++if d[s].toNat=l then [s]else []:=by
 have e:d.getD s 0=d[s]:=by rw [cD,bo h];rfl
 unfold sM;rw [jt,List.filter_append];congr 1;simp only [List.filter_cons,List.filter_nil,e];by_cases h2:d[s].toNat=l <;> simp [h2]
theorem DA(d:List UInt8)(s l:Nat)(h:s<=d.length):(sM d s l).length=aF (d.take s) l:=by
 induction s with
 | zero=>simp [sM,nN]
 | succ s o=>rw [ti d s l h,anQb,o (by omega),m8 _ _ _ h];split <;> rfl
theorem zw(d:List UInt8)(s l:Nat)(h:s<d.length):fM d (s+1) l=if d[s].toNat=l then dz d l % 65536 else fM d s l:=by
 unfold fM;rw [m8 _ _ _ h];by_cases h2:d[s].toNat=l;· rw [aiQb h2,aiQb h2,ah (by omega)]
 · rw [ah h2,ah h2];rfl
theorem GG(d:List UInt8)(s:Nat)(h:s<d.length)(o:d[s]≠0)(q:aF (d.take s) d[s].toNat=0):(cg d)[s]'(by rw [gU];exact h)=dz d d[s].toNat % 65536:=by
 rw [py d s h,ah o];unfold bp;rw [q,cX]
theorem GF(d:List UInt8)(s l:Nat)(h:aF (d.take s) l≠0):fM d s l=dz d l % 65536:=by unfold fM;rw [ah h]
def eH(d:List UInt8)(s:Nat):Nat:=(d.getD s 0).toNat
theorem oB(d:List UInt8)(s:Nat)(h:s<d.length):eH d s=d[s].toNat:=by
 unfold eH;rw [cD,bo h];rfl
theorem oA(d:List UInt8)(s:Nat)(h:d.length<=s):eH d s=0:=by
 unfold eH;rw [cD,gJ h];rfl
def lh(d:List UInt8)(s:Nat):List UInt8:=if eH d s=0 then []else aW ((cg d).getD s 0) (eH d s)
theorem uH(d:List UInt8)(s:Nat)(h:eH d s=0):lh d s=[]:=aiQb h
theorem Ay(d:List UInt8)(s:Nat)(h:eH d s≠0):lh d s=aW ((cg d).getD s 0) (eH d s):=ah h
theorem Az(d:List UInt8)(s:Nat)(h:∀ c∈d,c.toNat<=15):(lh d s).length<=15:=by
 unfold lh;split;· simp
 · rename_i h2;rw [jm];by_cases o:s<d.length;· rw [oB d s o];exact h _ (aH o)
   · rw [oA d s (by omega)]at h2;exact absurd rfl h2
theorem zX(d:List UInt8)(s:Nat)(h:s<d.length):(cg d).getD s 0=(cg d)[s]'(by rw [gU];exact h):=by
 rw [cD,bo];rfl
theorem zZ(d:List UInt8)(q:cH d=true)(y:∀ c∈d,c.toNat<=15)(s:Nat)(h:s<d.length)(o:d[s]≠0):(cg d)[s]'(by rw [gU];exact h)<2 ^ d[s].toNat:=by
 rw [py d s h,ah o];exact og (Nat.mod_le _ _) (BY d q y s h o)
theorem uz(d:List UInt8)(s:Nat)(h:s<(cg d).length):(cg d)[s]<65536:=by
 rw [py d s (by rw [gU]at h;exact h)];split;· omega
 · exact jM _ (by omega)
def cw:List UInt8->Nat->Nat
 | [],_=>0
 | _::_,0=>0
 | c::l,k+1=>if c=0 then cw l k+1 else 0
theorem B0(l:List UInt8):∀ k,cw l k<=k/\cw l k<=l.length:=by
 induction l with
 | nil=>intro k;simp [cw]
 | cons c l d=>
  intro k
  cases k with
  | zero=>simp [cw]
  | succ k=>
   rw [cw];have:=d k;split;· rw [bgQb];omega
   · omega
theorem vV(l:List UInt8):cw l 0=0:=by cases l <;> rfl
def cS:List UInt8->List UInt8
 | []=>[]
 | c::r=>if c=0 then aW 0 4++(aW (cw r 63) 6++cS (r.drop (cw r 63)))else aW c.toNat 4++cS r
termination_by l=>l.length
decreasing_by
 · rw [bN,bgQb];omega
 · rw [bgQb];omega
theorem qj:cS []=[]:=by rw [cS]
theorem sw(r:List UInt8)(c:UInt8)(h:c=0):cS (c::r)=aW 0 4++(aW (cw r 63) 6++cS (r.drop (cw r 63))):=by rw [cS,aiQb h]
theorem s5(r:List UInt8)(c:UInt8)(h:c≠0):cS (c::r)=aW c.toNat 4++cS r:=by rw [cS,ah h]
theorem s6:∀ (n:Nat) (l:List UInt8),l.length<=n->(cS l).length<=10*l.length:=by
 intro n
 induction n with
 | zero=>intro l h;rw [ibQb (Nat.le_zero.1 h),qj];simp
 | succ n d=>
  intro l h
  cases l with
  | nil=>rw [qj];simp
  | cons c r=>
   rw [bgQb]at h;by_cases o:c=0;· rw [sw r c o,anQb,anQb,jm,jm];have h1:=d (r.drop (cw r 63)) (by rw [bN];omega);have h2:=(B0 r 63).2;rw [bN]at h1;rw [bgQb];omega
   · rw [s5 r c o,anQb,jm];have h1:=d r (by omega);rw [bgQb];omega
theorem vW(l:List UInt8)(i k:Nat)(h:i<l.length)(d:l[i]=0):cw (l.drop i) (k+1)=cw (l.drop (i+1)) k+1:=by
 rw [cM h,cw,aiQb d]
theorem vX(l:List UInt8)(i k:Nat)(h:i<l.length)(d:l[i]≠0):cw (l.drop i) k=0:=by
 rw [cM h]
 cases k with
 | zero=>rfl
 | succ k=>rw [cw,ah d]
theorem vY(l:List UInt8)(i k:Nat)(h:l.length<=i):cw (l.drop i) k=0:=by rw [List.drop_eq_nil_of_le h];rfl
def dB(v:Nat):Nat:=Nat.log2 v
def fe(v:Nat):Nat:=v - 2 ^ Nat.log2 v
theorem rE(v:Nat)(h:1<=v):2 ^ dB v<=v:=Nat.log2_self_le (by omega)
theorem Ac(v:Nat):v<2 ^ (dB v+1):=Nat.lt_log2_self
theorem xP(v:Nat)(h:1<=v):fe v<2 ^ dB v:=by
 have h1:=rE v h;have h2:=Ac v;unfold fe dB at *;rw [eA]at h2;omega
theorem pz(v k:Nat)(h:1<=v)(h2:v<2 ^ k):dB v<k:=by
 have h1:=rE v h;exact(Nat.pow_lt_pow_iff_right (by omega)).1 (og h1 h2)
theorem Hu(v b:Nat)(h1:2 ^ b<=v)(h2:v<2 ^ (b+1)):dB v=b:=by
 have d:=kf b;have h3:=rE v (by omega);have h4:=Ac v;have h5:dB v<b+1:=(Nat.pow_lt_pow_iff_right (show 1<2 by omega)).1 (og h3 h2);have h:b<dB v+1:=(Nat.pow_lt_pow_iff_right (show 1<2 by omega)).1 (og h1 h4);omega
structure Be where
 sym:Nat
 len:Nat
 dist:Nat
 far:Nat
 deriving DecidableEq
def a9(t:bF):Be:=if t.len=0 then⟨t.lit.toNat,0,0,0⟩else⟨257+dB (t.len - 2),fe (t.len - 2),dB t.dist,fe t.dist⟩
theorem nB(t:bF)(h:ft t=true)(d:t.len≠0):t.lit=0/\3<=t.len/\t.len<=257/\1<=t.dist/\t.dist<=4095:=by
 unfold ft at h;rw [ah d]at h;simp only [f8,fi]at h;exact⟨h.1.1.1.1,h.1.1.1.2,h.1.1.2,h.1.2,h.2⟩
theorem oJ(t:bF)(h:ft t=true):(a9 t).sym<265/\(a9 t).dist<12/\(a9 t).len<256/\(a9 t).far<4096/\((a9 t).sym<256↔t.len=0)/\(t.len≠0->257<=(a9 t).sym):=by
 unfold a9;by_cases d:t.len=0;· rw [aiQb d];have:=t.lit.toNat_lt;exact⟨by show t.lit.toNat<265;omega,by show 0<12;omega,by show 0<256;omega,by show 0<4096;omega,by show t.lit.toNat<256↔_;omega,fun h=>absurd d h⟩
 · rw [ah d];obtain⟨_,h1,h2,h3,h4⟩:=nB t h d;have o:=pz (t.len - 2) 8 (by omega) (by have:(2:Nat) ^ 8=256:=rfl;omega);have c2:=pz t.dist 12 h3 (by have:(2:Nat) ^ 12=4096:=rfl;omega);have q:fe (t.len - 2)<=t.len - 2:=Nat.sub_le _ _;have y:fe t.dist<=t.dist:=Nat.sub_le _ _;exact⟨by show 257+dB (t.len - 2)<265;omega,c2,by show fe _<256;omega,by show fe _<4096;omega,by show 257+dB (t.len - 2)<256↔_;omega,fun _=>by show 257<=257+_;omega⟩
def bL(l:List bF)(k:Nat):Nat:=l.countP fun t=>(a9 t).sym == k
def dA(l:List bF)(k:Nat):Nat:=l.countP fun t=>decide (t.len≠0) && ((a9 t).dist == k)
theorem xf(l:List bF)(t:bF)(k:Nat):bL (l++[t]) k=bL l k+if(a9 t).sym=k then 1 else 0:=by simp [bL,List.countP_append,pV]
theorem zv(l:List bF)(t:bF)(k:Nat):dA (l++[t]) k=dA l k+if t.len≠0/\(a9 t).dist=k then 1 else 0:=by simp [dA,List.countP_append,pV]
theorem nh(l:List bF)(k:Nat):bL l k<=l.length:=vS
theorem rt(l:List bF)(k:Nat):dA l k<=l.length:=vS
def cJ(l:List bF):List Nat:=(List.range 265).map fun k=>bL l k+if k=256 then 1 else 0
def dg(l:List bF):List Nat:=(List.range 12).map (dA l)
def fO(a:List UInt8):List UInt8:=if cH a then cS a else []
def cU(a:List UInt8)(s:Nat):List UInt8:=if cH a then lh a s else []
def iU(a b:List UInt8)(t:bF):List UInt8:=
 cU a (a9 t).sym++if t.len=0 then []else aW (a9 t).len ((a9 t).sym - 257)++(cU b (a9 t).dist++aW (a9 t).far (a9 t).dist)
def dW(a b:List UInt8)(l:List bF):List UInt8:=l.flatMap (iU a b)
def lk(a b:List UInt8)(l:List bF):List UInt8:=((fO a++fO b)++dW a b l)++cU a 256
theorem wJ(a b:List UInt8)(l:List bF)(t:bF):dW a b (l++[t])=dW a b l++iU a b t:=by simp [dW]
theorem qi(a:List UInt8):(fO a).length<=10*a.length:=by
 unfold fO;split;· exact s6 a.length a (agQb _)
 · simp
theorem Ct(a b:List UInt8)(t:bF)(d:ft t=true)(o:∀ c∈a,c.toNat<=15)(q:∀ c∈b,c.toNat<=15):(iU a b t).length<=50:=by
 have pl:∀ (x:List UInt8) s,(∀ c∈x,c.toNat<=15)->(cU x s).length<=15:=fun x s h=>by
  unfold cU;split;· exact Az x s h
  · simp
 have h1:=pl a (a9 t).sym o;have h2:=pl b (a9 t).dist q;obtain⟨p1,p2,p3,y,z,A⟩:=oJ t d;unfold iU;split;· simp;omega
 · simp only [anQb,jm];omega
theorem wK(a b:List UInt8)(o:∀ c∈a,c.toNat<=15)(q:∀ c∈b,c.toNat<=15)(l:List bF)(d:∀ t∈l,ft t=true):(dW a b l).length<=50*l.length:=by
 induction l with
 | nil=>simp [dW]
 | cons t l y=>have h1:=Ct a b t (d t (by simp)) o q;have h2:=y (fun t h=>d t (by simp [h]));unfold dW at *;rw [List.flatMap_cons,anQb,bgQb];omega
def cC(x:Nat):Nat:=if x % 2=1 then(x / 2) ^^^ 3988292384 else x / 2
def nV(x c:Nat):Nat:=cC (cC (cC (cC (cC (cC (cC (cC (x ^^^ c))))))))
def cO(x:Nat)(l:List UInt8):Nat:=l.foldl (fun x c=>nV x c.toNat) x
def eY(l:List UInt8):Nat:=4294967295 - cO 4294967295 l
def gg(i:Nat):Nat:=cC (cC (cC (cC i)))
theorem rK(a b:Nat):cC (a ^^^ b)=cC a ^^^ cC b:=by
 have h:=uF a b 0;simp only [Nat.pow_zero,Nat.div_one]at h;unfold cC;rw [Nat.xor_div_two];by_cases h1:a % 2=1 <;> by_cases h2:b % 2=1;· rw [ah (by rw [h];simp [h1,h2]),aiQb h1,aiQb h2,sk,Nat.xor_self,pL]
 · rw [aiQb (by rw [h];simp [h1,h2]),aiQb h1,ah h2,kd,kd,Nat.xor_comm (b / 2)]
 · rw [aiQb (by rw [h];simp [h1,h2]),ah h1,aiQb h2,kd]
 · rw [ah (by rw [h];simp [h1,h2]),ah h1,ah h2]
theorem jn(x:Nat)(h:x<4294967296):cC x<4294967296:=by
 unfold cC;have h1:x / 2<2 ^ 32:=by omega
 split;· exact iw h1 (by decide)
 · omega
theorem Dm(x:Nat):x=(x / 16*16) ^^^ (x % 16):=by
 apply Nat.eq_of_testBit_eq;intro j;rw [Nat.testBit_xor,show(16:Nat)=2 ^ 4 from rfl,Nat.testBit_mul_two_pow,Nat.testBit_mod_two_pow,Nat.testBit_div_two_pow];by_cases h:4<=j;· rw [show j - 4+4=j by omega];simp [h];rw [bi (by omega:¬j<4)];simp
 · simp [h];omega
theorem wU(x:Nat):cC (cC (cC (cC x)))=(x / 16) ^^^ gg (x % 16):=by
 have e:cC (cC (cC (cC x)))=cC (cC (cC (cC ((x / 16*16) ^^^ (x % 16))))):=by rw [<- Dm]
 rw [e,rK,rK,rK,rK];have h:∀ y,cC (2*y)=y:=fun y=>by unfold cC;rw [ah (by omega)];omega
 rw [show x / 16*16=2*(2*(2*(2*(x / 16)))) by omega,h,h,h,h];rfl
theorem Iu(x c:Nat):nV x c=((x ^^^ c) / 16 ^^^ gg ((x ^^^ c) % 16)) / 16 ^^^ gg (((x ^^^ c) / 16 ^^^ gg ((x ^^^ c) % 16)) % 16):=by
  unfold nV;rw [wU (x ^^^ c),wU]
theorem wV(i:Nat)(h:i<16):gg i<4294967296:=jn _ (jn _ (jn _ (jn _ (by omega))))
theorem Iz(x c:Nat)(d:x<4294967296)(h:c<256):nV x c<4294967296:=by
 have:x ^^^ c<2 ^ 32:=iw d (by omega);exact jn _ (jn _ (jn _ (jn _ (jn _ (jn _ (jn _ (jn _ this)))))))
theorem uw(l:List UInt8):∀ x,x<4294967296->cO x l<4294967296:=by
 induction l with
 | nil=>intro x h;exact h
 | cons c l d=>intro x h;exact d _ (Iz x _ h c.toNat_lt)
theorem zP(x:Nat)(l:List UInt8)(k:Nat)(h:k<l.length):cO x (l.take (k+1))=nV (cO x (l.take k)) (l[k]).toNat:=by
 unfold cO;rw [cL h,mP];rfl
theorem Hk(x:Nat)(a b:List UInt8):cO x (a++b)=cO (cO x a) b:=by unfold cO;rw [mP]
def ay(l:List UInt8):List UInt8:=l++[UInt8.ofNat (eY l % 256),UInt8.ofNat (eY l / 256 % 256),UInt8.ofNat (eY l / 65536 % 256),UInt8.ofNat (eY l / 16777216 % 256)]
theorem sY(l:List UInt8):eY l<4294967296:=by unfold eY;omega
def bQ(d:Nat):Nat->List Nat->Bool
 | _,[]=>true
 | h,x::l=>decide (h<=x) && decide (x<d) && bQ d (x+1) l
theorem qL(d o:Nat)(l:List Nat)(k:Nat)(h:k<l.length):bQ d o (l.drop k)=(decide (o<=l[k]) && decide (l[k]<d) && bQ d (l[k]+1) (l.drop (k+1))):=by
 rw [cM h,bQ]
theorem xY(q:Nat)(l:List Nat):∀ o,bQ q o l=true->∀ x∈l,x<q:=by
 induction l with
 | nil=>intro o _ x d;simp at d
 | cons y l z=>
  intro o h x d;rw [bQ]at h;simp only [f8,fi]at h;rcases fy.1 d with rfl | d;· exact h.1.2
  · exact z _ h.2 x d
theorem qK(o:Nat)(l:List Nat):∀ d,d<=o->bQ o d l=true->d+l.length<=o:=by
 induction l with
 | nil=>intro d h _;simpa using h
 | cons y l q=>intro d z h;rw [bQ]at h;simp only [f8,fi]at h;have:=q (y+1) (by omega) h.2;rw [bgQb];omega
def eM(w:Nat)(l:List Nat):List UInt8:=(l.map fun x=>aW (x % 2 ^ w) w).flatten
theorem zz(w:Nat)(l:List Nat)(k:Nat)(h:k<l.length):eM w (l.take (k+1))=eM w (l.take k)++aW (l[k] % 2 ^ w) w:=by
 unfold eM;exact pe _ l k h
theorem un(w:Nat)(l:List Nat):(eM w l).length=l.length*w:=by
 induction l with
 | nil=>simp [eM]
 | cons x l d=>simp only [eM,fLQb,List.flatten_cons,anQb,jm]at *;rw [d,bgQb,crQb];omega
def fG(w:Nat):Nat->List Nat->List UInt8
 | _,[]=>[]
 | d,x::l=>gK (x / 2 ^ w - d)++fG w (x / 2 ^ w) l
theorem zB(w d:Nat)(l:List Nat)(k:Nat)(h:k<l.length):fG w d (l.drop k)=gK (l[k] / 2 ^ w - d)++fG w (l[k] / 2 ^ w) (l.drop (k+1)):=by
 rw [cM h,fG]
theorem sE(n:Nat):(gK n).length=n+1:=by simp [gK]
def fF(d:Nat)(l:List Nat):List UInt8:=
 ao l.length++if l=[]then []else bM (eM (Nat.log2 (d / l.length)) l++fG (Nat.log2 (d / l.length)) 0 l)
theorem yO(q k:Nat)(h1:2 ^ k<=q)(h2:q<2 ^ (k+1)):Nat.log2 q=k:=(Nat.log2_eq_iff (by have:=kf k;omega)).2 ⟨h1,h2⟩
theorem kA{α:Type}(l:List α)(i:Nat)(d:α)(h:i<l.length):l.getD i d=l[i]:=by
 rw [cD,bo h];rfl
def iO(d:List UInt8)(c:Nat)(b:List UInt8):List UInt8:=d.zipWith (fun x y=>UInt8.ofNat (x.toNat ^^^ aO c y.toNat)) b
def dx(M:List UInt8)(C i:Nat)(d:List (List UInt8))(L:Nat):Nat->List UInt8
 | 0=>List.replicate L 0
 | j+1=>iO (dx M C i d L j) (M.getD (i*C+j) 0).toNat (d.getD j [])
def j6(M:List UInt8)(C R:Nat)(d:List (List UInt8))(L:Nat):List (List UInt8):=(List.range R).map fun i=>dx M C i d L C
theorem nj(M:List UInt8)(C i:Nat)(d:List (List UInt8))(L j:Nat)(h:∀ p∈d,p.length=L)(q:j<=d.length):(dx M C i d L j).length=L:=by
 induction j with
 | zero=>simp [dx]
 | succ j o=>have h1:=o (by omega);have h2:(d.getD j []).length=L:=(by rw [cD,bo (by omega)];exact h _ (aH _));rw [dx,iO,List.length_zipWith,h1,h2,Nat.min_self]
theorem sQ(M:List UInt8)(C R:Nat)(d:List (List UInt8))(L:Nat):(j6 M C R d L).length=R:=by simp [j6]
theorem Ja(d b:List UInt8)(c:Nat)(h:d.length=b.length):(iO d c b).length=d.length:=by unfold iO;rw [List.length_zipWith];omega
theorem IZ(l b:List UInt8)(h:l.length=b.length):iO l 0 b=l:=by
 apply kL;· simp [iO,h]
 · intro i h1 h2;simp [iO,yB]
theorem AG(l b:List UInt8)(c i:Nat)(h1:i<l.length)(h2:i<b.length)(h3:i<(iO l c b).length):(iO l c b)[i]=UInt8.ofNat (l[i].toNat ^^^ aO c b[i].toNat):=by
 simp [iO]
def gm(M:List UInt8)(C i:Nat)(d:List (List UInt8))(n:Nat):Nat->Nat
 | 0=>0
 | j+1=>gm M C i d n j ^^^ aO (M.getD (i*C+j) 0).toNat ((d.getD j []).getD n 0).toNat
theorem Ai(M:List UInt8)(C i:Nat)(d:List (List UInt8))(n j:Nat):gm M C i d n j<256:=by
 induction j with
 | zero=>simp [gm]
 | succ j h=>exact iw (n:=8) h (n9 _ _ (kH _))
theorem DL(M:List UInt8)(C i:Nat)(d:List (List UInt8))(L n j:Nat)(h:∀ p∈d,p.length=L)(o:j<=d.length)(q:n<L):(dx M C i d L j)[n]'(by rw [nj M C i d L j h o];exact q)=UInt8.ofNat (gm M C i d n j):=by
 induction j with
 | zero=>simp [dx,gm]
 | succ j y=>have h1:=y (by omega);have A:=nj M C i d L j h (by omega);have h2:(d.getD j []).length=L:=(by rw [cD,bo (by omega)];exact h _ (aH _));have h3:(dx M C i d L (j+1))=iO (dx M C i d L j) (M.getD (i*C+j) 0).toNat (d.getD j []):=rfl;have h4:=AG (dx M C i d L j) (d.getD j []) (M.getD (i*C+j) 0).toNat n (by omega) (by omega) (by rw [<- h3,nj M C i d L (j+1) h o];exact q);simp only [h3];rw [h4,h1,gm];have z:(UInt8.ofNat (gm M C i d n j)).toNat=gm M C i d n j:=(by rw [jL];exact pN (Ai M C i d n j));rw [z];rw [kA (d.getD j []) n 0 (by omega)]
theorem wO(M:List UInt8)(C R:Nat)(d:List (List UInt8))(L i:Nat)(o:i<R)(h:i<(j6 M C R d L).length):(j6 M C R d L)[i]=dx M C i d L C:=by
 simp [j6]
def bh(key:Nat->Nat)(a b:Nat):Prop:=key a<key b\/(key a=key b/\a<b)
theorem iG{key:Nat->Nat}{a b c:Nat}(h:bh key a b)(k:bh key b c):bh key a c:=by unfold bh at *;omega
theorem FB{key:Nat->Nat}{a b:Nat}(h:bh key a b):¬bh key b a:=by unfold bh at *;omega
abbrev kD(key:Nat->Nat)(l:List Nat):Prop:=l.Pairwise (bh key)
theorem Dk{key:Nat->Nat}{l m:List Nat}(d:l.Perm m)(h1:kD key l)(h2:kD key m):l=m:=
 d.eq_of_pairwise (fun _ _ _ _ h k=>absurd k (FB h)) h1 h2
def fH(f:Nat->Bool):Nat->Nat
 | 0=>0
 | n+1=>if f n then fH f n else n+1
theorem GY(f:Nat->Bool)(n:Nat):fH f n<=n:=by
 induction n with
 | zero=>exact agQb _
 | succ n d=>rw [fH];split <;> omega
theorem GX(f:Nat->Bool)(n:Nat):∀ i,fH f n<=i->i<n->f i=true:=by
 induction n with
 | zero=>intro i _ h;omega
 | succ n d=>
  intro i h1 h2;rw [fH]at h1;split at h1
  · by_cases e:i=n;· subst e;assumption
    · exact d i h1 (by omega)
  · omega
theorem GW(f:Nat->Bool)(n:Nat)(h:fH f n≠0):f (fH f n - 1)=false:=by
 induction n with
 | zero=>exact absurd rfl h
 | succ n o=>
  rw [fH]at h ⊢;split;· rename_i d;rw [aiQb d]at h;exact o h
  · rename_i d;simpa using d
def gN(key:Nat->Nat)(l:List Nat)(x:Nat):List Nat:=
 l.take (fH (fun i=>decide (key x<key (l.getD i 0))) l.length)++x::l.drop (fH (fun i=>decide (key x<key (l.getD i 0))) l.length)
theorem t6(key:Nat->Nat)(l:List Nat)(x:Nat):(gN key l x).Perm (x::l):=by
 unfold gN;refine List.perm_middle.trans ?_;rw [kIQb]
theorem Ew(key:Nat->Nat)(l:List Nat)(x:Nat)(h:kD key l)(G:∀ y∈l,y<x):kD key (gN key l x):=by
 unfold gN;have L:=GY (fun i=>decide (key x<key (l.getD i 0))) l.length;have I:=GX (fun i=>decide (key x<key (l.getD i 0))) l.length;have J:=GW (fun i=>decide (key x<key (l.getD i 0))) l.length;generalize fH (fun i=>decide (key x<key (l.getD i 0))) l.length=d at *;have h1:∀ y∈l.take d,bh key y x:=by
  intro y o;obtain⟨i,q,rfl⟩:=List.getElem_of_mem o;have z:i<d:=(by have:=q;rw [aV]at this;omega);have D:i<l.length:=(by omega);rw [rX];have K:=J (by omega);simp only [pI,Nat.not_lt,cD,bo (show d - 1<l.length by omega),Option.getD_some]at K;have M:key l[i]<=key (l[d - 1]'(by omega)):=by
   by_cases e:i=d - 1;· subst e;exact agQb _
   · have:=pR.1 h i (d - 1) D (by omega) (by omega);unfold bh at this;omega
  have:=G l[i] (aH D);unfold bh;omega
 have h2:∀ y∈l.drop d,bh key x y:=by intro y o;obtain⟨i,q,rfl⟩:=List.getElem_of_mem o;have z:d+i<l.length:=(by have:=q;rw [bN]at this;omega);rw [rY];have:=I (d+i) (by omega) z;simp only [fi,cD,bo z,Option.getD_some]at this;exact .inl this
 refine List.pairwise_append.2 ⟨h.sublist (List.take_sublist _ _),lW.2 ⟨h2,h.sublist (List.drop_sublist _ _)⟩,fun a F b A=>?_⟩;rcases fy.1 A with rfl | A;· exact h1 a F
 · exact iG (h1 a F) (h2 b A)
def o6(key:Nat->Nat)(l:List Nat):List Nat:=l.foldl (gN key) []
theorem wD(key:Nat->Nat):∀ (l d:List Nat),kD key d->(∀ y∈d,∀ x∈l,y<x)->l.Pairwise (·<·)->kD key (l.foldl (gN key) d)/\(l.foldl (gN key) d).Perm (d++l):=by
 intro l
 induction l with
 | nil=>intro d o _ _;exact⟨o,by simp⟩
 | cons x l G=>
  intro d o q I;have A:=lW.1 I;have D:=t6 key d x;obtain ⟨h1, h2⟩ := G (gN key d x) (Ew key d x o fun y h => q y h x (by simp)) (fun y h z F => by
   rcases fy.1 (D.mem_iff.1 h) with rfl | h;· exact A.1 z F
   · exact q y h z (by simp [F])) A.2
  refine⟨h1,h2.trans ?_⟩;exact(D.append_right l).trans (List.perm_middle.symm)
theorem Cg(key:Nat->Nat)(l:List Nat)(d:l.Pairwise (·<·)):kD key (o6 key l):=(wD key l [] List.Pairwise.nil (by simp) d).1
theorem o5(key:Nat->Nat)(l:List Nat)(d:l.Pairwise (·<·)):(o6 key l).Perm l:=by
 have h:=(wD key l [] List.Pairwise.nil (by simp) d).2;rw [gI]at h;exact h
theorem Ch(key:Nat->Nat)(l m:List Nat)(d:l.Pairwise (·<·))(h:m.Perm l)(o:kD key m):m=o6 key l:=
 Dk (h.trans (o5 key l d).symm) o (Cg key l d)
def eK(f:Nat->Nat)(a b:Nat):List Nat:=(List.range (b - a)).map fun i=>f (a+i)
theorem D1(f:Nat->Nat)(a b:Nat):(eK f a b).length=b - a:=by simp [eK]
theorem ni(f:Nat->Nat)(a m b:Nat)(h1:a<=m)(h2:m<=b):eK f a b=eK f a m++eK f m b:=by
 unfold eK;rw [show b - a=(m - a)+(b - m) by omega,List.range_add,fN,mLQb];congr 1;refine iT fun i _=>?_;show f (a+(m - a+i))=f (m+i);congr 1;omega
theorem xI(f g:Nat->Nat)(a b:Nat)(h:∀ p,a<=p->p<b->f p=g p):eK f a b=eK g a b:=by
 unfold eK;refine iT fun i d=>?_;have:=kg.1 d;exact h _ (by omega) (by omega)
theorem xH(f g:Nat->Nat)(a b c d:Nat)(o:b - a=d - c)(h:∀ i,i<b - a->f (a+i)=g (c+i)):eK f a b=eK g c d:=by
 unfold eK;rw [<- o];exact iT fun i q=>h i (kg.1 q)
theorem yF(f:Nat->Nat)(a b x:Nat):x∈eK f a b↔∃ p,a<=p/\p<b/\f p=x:=by
 unfold eK;rw [gtQb];constructor;· rintro⟨i,d,rfl⟩;have:=kg.1 d;exact⟨a+i,by omega,by omega,rfl⟩
 · rintro⟨p,h1,h2,rfl⟩;exact⟨p - a,kg.2 (by omega),by congr 1;omega⟩
theorem xJ(f:Nat->Nat)(a b i:Nat)(h:i<(eK f a b).length):(eK f a b)[i]=f (a+i):=by simp [eK]
def ci(f f':Nat->Nat)(a b:Nat):Prop:=(∀ p,p<a\/b<=p->f' p=f p)/\(eK f' a b).Perm (eK f a b)
theorem ci.refl(f:Nat->Nat)(a b:Nat):ci f f a b:=⟨fun _ _=>rfl,List.Perm.refl _⟩
theorem ci.trans{f g h:Nat->Nat}{a b:Nat}(h1:ci f g a b)(h2:ci g h a b):ci f h a b:=⟨fun p d=>(h2.1 p d).trans (h1.1 p d),h2.2.trans h1.2⟩
theorem ci.congr{f g d:Nat->Nat}{a b:Nat}(h1:ci f g a b)(h2:∀ p,d p=g p):ci f d a b:=by
 have:d=g:=funext h2;rw [this];exact h1
theorem ci.widen{f f':Nat->Nat}{a b o d:Nat}(h:ci f f' a b)(h1:o<=a)(h2:a<=b)(h3:b<=d):ci f f' o d:=by
 refine⟨fun p q=>h.1 p (by omega),?_⟩;rw [ni f' o a d h1 (by omega),ni f' a b d h2 h3,ni f o a d h1 (by omega),ni f a b d h2 h3];rw [xI f' f o a (fun p _ q=>h.1 p (by omega)),xI f' f b d (fun p q _=>h.1 p (by omega))];exact(List.Perm.refl _).append (h.2.append (List.Perm.refl _))
theorem ci.mem{f f':Nat->Nat}{a b:Nat}(h:ci f f' a b)(p:Nat)(h1:a<=p)(h2:p<b):∃ q,a<=q/\q<b/\f' p=f q:=by
 have:f' p∈eK f a b:=h.2.mem_iff.1 ((yF f' a b _).2 ⟨p,h1,h2,rfl⟩);obtain⟨q,h3,h4,h5⟩:=(yF f a b _).1 this;exact⟨q,h3,h4,h5.symm⟩
def aE(f:Nat->Nat)(a m b p:Nat):Nat:=if a<=p/\p<a+(b - m)then f (p+m - a)else if a+(b - m)<=p/\p<b then f (p - (b - m))else f p
theorem qJ(f:Nat->Nat)(a m b:Nat)(h1:a<=m)(h2:m<=b):ci f (aE f a m b) a b:=by
 refine⟨fun p h=>by unfold aE;rw [ah (by omega),ah (by omega)],?_⟩;rw [ni (aE f a m b) a (a+(b - m)) b (by omega) (by omega),ni f a m b h1 h2];rw [xH (aE f a m b) f a (a+(b - m)) m b (by omega) (fun i d=>by unfold aE;rw [aiQb (by omega)];congr 1;omega)];rw [xH (aE f a m b) f (a+(b - m)) b a m (by omega) (fun i d=>by unfold aE;rw [ah (by omega),aiQb (by omega)];congr 1;omega)];exact List.perm_append_comm
def gw(f:Nat->Nat)(a b n p:Nat):Nat:=if a<=p/\p<a+n then f (p - a+b)else if b<=p/\p<b+n then f (p - b+a)else f p
theorem CT(f:Nat->Nat)(a b p:Nat):gw f a b 0 p=f p:=by unfold gw;rw [ah (by omega),ah (by omega)]
def ie(f:Nat->Nat)(i j p:Nat):Nat:=if p=j then f i else if p=i then f j else f p
theorem CU(f:Nat->Nat)(a b n p:Nat)(h:a+n<b):ie (gw f a b n) (a+n) (b+n) p=gw f a b (n+1) p:=by
 unfold ie gw;repeat' split
 all_goals first
  | rfl
  | (congr 1;omega)
  | (exfalso;omega)
theorem DV(f:Nat->Nat)(m i p:Nat)(h:i<=m):gw f (m - i) m i p=aE f (m - i) m (m+i) p:=by
 unfold gw aE;repeat' split
 all_goals first
  | rfl
  | (congr 1;omega)
  | (exfalso;omega)
theorem DU(f:Nat->Nat)(m i j p:Nat)(h:i<=m)(d:j<i):aE (gw f (m - i) m j) (m - (i - j)) m (m+j) p=aE f (m - i) m (m+j) p:=by
 unfold aE gw;repeat' split
 all_goals first
  | rfl
  | (congr 1;omega)
  | (exfalso;omega)
theorem DT(f:Nat->Nat)(m i j p:Nat)(h:i<=m)(d:i<j):aE (gw f (m - i) (m+j - i) i) (m - i) m (m+(j - i)) p=aE f (m - i) m (m+j) p:=by
 unfold aE gw;repeat' split
 all_goals first
  | rfl
  | (congr 1;omega)
  | (exfalso;omega)
theorem DS(f:Nat->Nat)(a k p:Nat)(h:a<=k):ie (aE f a (a+1) (k+1)) k (k+1) p=aE f a (a+1) (k+2) p:=by
 unfold ie aE;repeat' split
 all_goals first
  | rfl
  | (congr 1;omega)
  | (exfalso;omega)
theorem xU(f:Nat->Nat)(m k p:Nat)(h:k<=m)(d:0<k):ie (aE f k m (m+1)) k (k - 1) p=aE f (k - 1) m (m+1) p:=by
 unfold ie aE;repeat' split
 all_goals first
  | rfl
  | (congr 1;omega)
  | (exfalso;omega)
theorem tr(f:Nat->Nat)(a b p:Nat)(h:a<=b):aE f a a b p=f p:=by
 unfold aE;repeat' split
 all_goals first
  | rfl
  | (congr 1;omega)
  | (exfalso;omega)
theorem xV(f:Nat->Nat)(a m p:Nat):aE f a m m p=f p:=by
 unfold aE;repeat' split
 all_goals first
  | rfl
  | (congr 1;omega)
  | (exfalso;omega)
def bw(key:Nat->Nat)(f:Nat->Nat)(a b:Nat):Prop:=∀ i j,a<=i->i<j->j<b->bh key (f i) (f j)
theorem bw.list{key f:Nat->Nat}{a b:Nat}(h:bw key f a b):kD key (eK f a b):=by
 rw [kD,pR];intro i j d o q;rw [xJ,xJ];rw [D1]at d o;exact h _ _ (by omega) (by omega) (by omega)
theorem bw.sub{key f:Nat->Nat}{a b c d:Nat}(h:bw key f a b)(h1:a<=c)(h2:d<=b):bw key f c d:=fun i j x y z=>h i j (by omega) y (by omega)
theorem bw.congr{key f g:Nat->Nat}{a b:Nat}(h:bw key f a b)(d:∀ p,a<=p->p<b->g p=f p):bw key g a b:=fun i j x y z=>by rw [d i x (by omega),d j (by omega) z];exact h i j x y z
def jg(g:Nat->Nat)(j i p:Nat):Nat:=aE g j i (i+1) p
theorem zf(key g:Nat->Nat)(a j i:Nat)(y:bw key g a i)(h1:a<=j)(h2:j<=i)(D:∀ p,a<=p->p<j->bh key (g p) (g i))(F:∀ p,j<=p->p<i->bh key (g i) (g p)):bw key (jg g j i) a (i+1):=by
 have z:∀ p,p<j->jg g j i p=g p:=fun p h=>by unfold jg aE;rw [ah (by omega),ah (by omega)]
 have A:jg g j i j=g i:=by unfold jg aE;rw [aiQb (by omega)];congr 1;omega
 have o:∀ p,j<p->p<=i->jg g j i p=g (p - 1):=fun p h G=>by unfold jg aE;rw [ah (by omega),aiQb (by omega)];congr 1;omega
 intro p q h I G;rcases lT p j with c | c | c
 · rw [z p c];rcases lT q j with d | d | d;· rw [z q d];exact y p q h I (by omega)
   · rw [d,A];exact D p h c
   · rw [o q d (by omega)];exact y p (q - 1) h (by omega) (by omega)
 · rw [c,A,o q (by omega) (by omega)];exact F _ (by omega) (by omega)
 · rw [o p c (by omega),o q (by omega) (by omega)];exact y _ _ (by omega) (by omega) (by omega)
def kF(f:Nat->Nat)(a m b:Nat):Prop:=∀ p q,a<=p->p<m->m<=q->q<b->f p<f q
theorem uV{key f:Nat->Nat}{a m b:Nat}(h:kF f a m b){p q:Nat}(h1:a<=p)(h2:p<m)(h3:m<=q)(h4:q<b):(key (f q)<key (f p)↔bh key (f q) (f p))/\(¬key (f q)<key (f p)↔bh key (f p) (f q)):=by
 have:=h p q h1 h2 h3 h4;unfold bh;omega
theorem Fx(key f:Nat->Nat)(a b i:Nat)(o:bw key f (a+1) b)(h1:a+1<=i)(h2:i<=b)(D:∀ p,a+1<=p->p<i->bh key (f p) (f a))(F:∀ p,i<=p->p<b->bh key (f a) (f p)):bw key (aE f a (a+1) i) a b:=by
 have z:∀ p,a<=p->p<i - 1->aE f a (a+1) i p=f (p+1):=fun p y G=>by unfold aE;rw [aiQb (by omega)];congr 1;omega
 have A:aE f a (a+1) i (i - 1)=f a:=by unfold aE;rw [ah (by omega),aiQb (by omega)];congr 1;omega
 have h:∀ p,i<=p->aE f a (a+1) i p=f p:=fun p y=>by unfold aE;rw [ah (by omega),ah (by omega)]
 intro p q y I G;rcases lT p (i - 1)with c | c | c
 · rw [z p y c];rcases lT q (i - 1)with d | d | d;· rw [z q (by omega) d];exact o _ _ (by omega) (by omega) (by omega)
   · rw [d,A];exact D _ (by omega) (by omega)
   · rw [h q (by omega)];exact o _ _ (by omega) (by omega) (by omega)
 · rw [c,A,h q (by omega)];exact F _ (by omega) (by omega)
 · rw [h p (by omega),h q (by omega)];exact o _ _ (by omega) (by omega) (by omega)
theorem CI(key f g:Nat->Nat)(a mid b:Nat)(h1:bw key g a mid)(h2:bw key g mid b)(z:∀ p,a<=p->p<mid->∃ q,a<=q/\q<mid/\g p=f q)(A:∀ p,mid<=p->p<b->∃ q,mid<=q/\q<b/\g p=f q)(D:∀ p q,a<=p->p<mid->mid<=q->q<b->bh key (f p) (f q)):bw key g a b:=by
 intro p q h o y;by_cases c:q<mid;· exact h1 p q h o c
 · by_cases d:mid<=p;· exact h2 p q d o y
   · obtain⟨F,G,I,J⟩:=z p h (by omega);obtain⟨K,L,M,O⟩:=A q (by omega) y;rw [J,O];exact D F K G I L M
theorem tq(f:Nat->Nat)(s m e p:Nat)(h:p<s):aE f s m e p=f p:=by unfold aE;rw [ah (by omega),ah (by omega)]
theorem qI(f:Nat->Nat)(s m e p:Nat)(h:s<=p)(h2:p<s+(e - m)):aE f s m e p=f (p+m - s):=by unfold aE;rw [aiQb (by omega)]
theorem qH(f:Nat->Nat)(s m e p:Nat)(h:s+(e - m)<=p)(h2:p<e):aE f s m e p=f (p - (e - m)):=by unfold aE;rw [ah (by omega),aiQb (by omega)]
theorem tp(f:Nat->Nat)(s m e p:Nat)(h:e<=p)(d:s<=m)(o:m<=e):aE f s m e p=f p:=by unfold aE;rw [ah (by omega),ah (by omega)]
section
variable {key f:Nat->Nat} {a m b mid s e:Nat} (h1:a<=s) (h2:s<=m) (h3:m<=e) (h4:e<=b) (h5:e+s=mid+m)
include h1 h2 h3 h4 h5
theorem CH(p:Nat)(d:a<=p)(h:p<mid):(p<s/\aE f s m e p=f p)\/(s<=p/\m<=p+m - s/\p+m - s<e/\aE f s m e p=f (p+m - s)):=by
 by_cases c:p<s;· exact .inl ⟨c,tq f s m e p c⟩
 · exact .inr ⟨by omega,by omega,by omega,qI f s m e p (by omega) (by omega)⟩
theorem xg(p:Nat)(d:mid<=p)(h:p<b):(p<e/\s<=p - (e - m)/\p - (e - m)<m/\aE f s m e p=f (p - (e - m)))\/(e<=p/\aE f s m e p=f p):=by
 by_cases c:p<e;· exact .inl ⟨c,by omega,by omega,qH f s m e p (by omega) c⟩
 · exact .inr ⟨by omega,tp f s m e p (by omega) h2 h3⟩
theorem CJ(D:bw key f a m)(F:bw key f m b)(M:a<s->e<b->bh key (f (s - 1)) (f e))(O:s<m->m<e->bh key (f (e - 1)) (f s)) :
  ∀ p q,a<=p->p<mid->mid<=q->q<b->bh key (aE f s m e p) (aE f s m e q):=by
 intro p q G Q K o;have R:∀ x y,a<=x->x<=y->y<m->∀ z,bh key (f y) z->bh key (f x) z:=fun x y i j k z d=>by
  by_cases c:x=y;· rw [c];exact d
  · exact iG (D x y i (by omega) k) d
 have T:∀ x y,m<=x->x<=y->y<b->∀ z,bh key z (f x)->bh key z (f y):=fun x y i j k z d=>by
  by_cases c:x=y;· rw [<- c];exact d
  · exact iG d (F x y i (by omega) k)
 have U:∀ x y,m<=x->x<=y->y<b->∀ z,bh key (f y) z->bh key (f x) z:=fun x y i j k z d=>by
  by_cases c:x=y;· rw [c];exact d
  · exact iG (F x y i (by omega) k) d
 have V:∀ x y,a<=x->x<=y->y<m->∀ z,bh key z (f x)->bh key z (f y):=fun x y i j k z d=>by
  by_cases c:x=y;· rw [<- c];exact d
  · exact iG d (D x y i (by omega) k)
 rcases CH (f:=f) h1 h2 h3 h4 h5 p G Q with⟨X,c2⟩ | ⟨X,c2,Y,L⟩
 · rcases xg (f:=f) h1 h2 h3 h4 h5 q K o with⟨A,h,I,J⟩ | ⟨A,h⟩;· rw [c2,J];exact D _ _ G (by omega) I
   · rw [c2,h];exact R p (s - 1) G (by omega) (by omega) _ (T e q h3 A o _ (M (by omega) (by omega)))
 · rcases xg (f:=f) h1 h2 h3 h4 h5 q K o with⟨A,h,I,J⟩ | ⟨A,h⟩;· rw [L,J];exact U _ (e - 1) c2 (by omega) (by omega) _ (V s _ h1 h I _ (O (by omega) (by omega)))
   · rw [L,h];exact F _ _ c2 (by omega) o
theorem CG(d:bw key f a m):bw key (aE f s m e) a s:=(d.sub (agQb a) h2).congr fun p _ h=>tq f s m e p h
theorem CF(d:bw key f m b):bw key (aE f s m e) s mid:=fun i j x y z=>by
 rw [qI f s m e i x (by omega),qI f s m e j (by omega) (by omega)]
 exact d _ _ (by omega) (by omega) (by omega)
theorem CE(d:bw key f a m):bw key (aE f s m e) mid e:=fun i j x y z=>by
 rw [qH f s m e i (by omega) (by omega),qH f s m e j (by omega) (by omega)]
 exact d _ _ (by omega) (by omega) (by omega)
theorem CD(d:bw key f m b):bw key (aE f s m e) e b:=(d.sub h3 (agQb b)).congr fun p h _=>tp f s m e p h h2 h3
theorem CM(d:kF f a m b):kF (aE f s m e) a s mid:=fun p q x y z t=>by
 rw [tq f s m e p y,qI f s m e q z (by omega)]
 exact d _ _ x (by omega) (by omega) (by omega)
theorem CL(d:kF f a m b):kF (aE f s m e) mid e b:=fun p q x y z t=>by
 rw [qH f s m e p (by omega) y,tp f s m e q z h2 h3]
 exact d _ _ (by omega) (by omega) (by omega) t
end
theorem D6(key f:Nat->Nat)(a m b d o p c:Nat)(D:bw key f a m)(F:bw key f m b)(h1:a<=d)(h2:o<=m)(h3:∀ x,d<=x->x<o->m<=p - x/\p - x<b/\x<=p)(G:d<=c)(I:c<o) :
  (bh key (f c) (f (p - c))->∀ x,d<=x->x<c+1->bh key (f x) (f (p - x)))/\(bh key (f (p - c)) (f c)->∀ x,c<=x->x<o->bh key (f (p - x)) (f x)):=by
 refine⟨fun h x J K=>?_,fun h x J K=>?_⟩
 · by_cases e:x=c;· rw [e];exact h
   · have q:=D x c (by omega) (by omega) (by omega);have y:=h3 x J (by omega);have z:=h3 c G I;have A:=F (p - c) (p - x) z.1 (by omega) y.2.1;exact iG q (iG h A)
 · by_cases e:x=c;· rw [e];exact h
   · have q:=D c x (by omega) (by omega) (by omega);have y:=h3 x (by omega) K;have z:=h3 c G I;have A:=F (p - x) (p - c) y.1 (by omega) z.2.1;exact iG A (iG h q)
theorem iL(c t i:Nat)(d:0<c):i / c=t↔c*t<=i/\i<c*t+c:=by
 constructor;· intro h;subst h;have h1:=Nat.div_add_mod i c;have h2:=jM i d;omega
 · rintro⟨h1,h2⟩;refine Nat.le_antisymm ?_ ?_;· refine Nat.le_of_lt_succ ((vJ d).2 ?_);rw [fK,Nat.mul_succ];omega
   · rw [vI d,fK];exact h1
structure ex (key f0 f:Nat->Nat) (c n lim:Nat):Prop where
 rear:ci f0 f 0 n
 loc:∀ p,p<n->∃ q,q<n/\q / c=p / c/\f p=f0 q
 srt:∀ i j,i<j->j<n->j<lim->i / c=j / c->bh key (f i) (f j)
theorem ex.start(key d:Nat->Nat)(c n:Nat):ex key d d c n 0:=⟨ci.refl _ _ _,fun p h=>⟨p,h,rfl,rfl⟩,fun i j _ _ h _=>by omega⟩
theorem ex.double{key d f:Nat->Nat}{c n:Nat}(h:ex key d f c n n):ex key d f (2*c) n 0:=
 ⟨h.rear, fun p o => by
  obtain ⟨q, h1, h2, h3⟩ := h.loc p o
  exact ⟨q, h1, by rw [fK 2 c, ← oi, ← oi, h2], h3⟩, fun i j _ _ h _ => by omega⟩
theorem ex.step{key D g y h:Nat->Nat}{c n t b:Nat}(z:0<c)(A:ex key D g c n (c*t))(J:∀ p,c*t<=p->g p=h p)(d:ci g y (c*t) b)(K:bw key y (c*t) b)(L:c*t<=b)(M:b<=n)(Y:b<=c*t+c)(Z:b=c*t+c\/b=n) :
  ex key D y c n b/\∀ p,b<=p->y p=h p:=by
 refine⟨⟨A.rear.trans (d.widen (apQb _) L M),fun p F=>?_,fun i j G O Q I=>?_⟩,fun p F=>?_⟩
 · by_cases o:c*t<=p/\p<b;· obtain⟨q,h1,h2,h3⟩:=d.mem p o.1 o.2;obtain⟨r,R,T,U⟩:=A.loc q (by omega);refine⟨r,R,?_,by rw [h3,U]⟩;rw [T,(iL c t q z).2 ⟨h1,by omega⟩,(iL c t p z).2 ⟨o.1,by omega⟩]
   · rw [d.1 p (by omega)];exact A.loc p F
 · by_cases o:j<c*t;· rw [d.1 i (by omega),d.1 j (by omega)];exact A.srt i j G O o I
   · have V:j / c=t:=(iL c t j z).2 ⟨by omega,by omega⟩;have X:=(iL c t i z).1 (I.trans V);exact K i j X.1 G Q
 · rw [d.1 p (by omega)];exact J p (by omega)
theorem ex.parts{key A f:Nat->Nat}{c n t b:Nat}(d:0<c)(y:ex key A f c n n)(J:∀ p q,p<q->q<n->A p<A q)(h1:2*c*t+c<=b)(T:b<=n)(U:b<=2*c*t+2*c) :
  kF f (2*c*t) (2*c*t+c) b/\bw key f (2*c*t) (2*c*t+c)/\bw key f (2*c*t+c) b:=by
 have K:2*c*t=c*(2*t):=by simp [fK,lS]
 have V:2*c*t+c=c*(2*t+1):=by rw [K,Nat.mul_succ]
 refine⟨fun p q D z F X=>?_,fun i j D z F=>?_,fun i j D z F=>?_⟩;· obtain⟨G,Y,L,M⟩:=y.loc p (by omega);obtain⟨I,O,Q,R⟩:=y.loc q (by omega);have h:p / c=2*t:=(iL c (2*t) p d).2 ⟨by omega,by omega⟩;have o:q / c=2*t+1:=(iL c (2*t+1) q d).2 ⟨by omega,by omega⟩;have Z:=(iL c (2*t) G d).1 (L.trans h);have m2:=(iL c (2*t+1) I d).1 (Q.trans o);rw [M,R];exact J G I (by omega) O
 · have h:i / c=2*t:=(iL c (2*t) i d).2 ⟨by omega,by omega⟩;have o:j / c=2*t:=(iL c (2*t) j d).2 ⟨by omega,by omega⟩;exact y.srt i j z (by omega) (by omega) (h.trans o.symm)
 · have h:i / c=2*t+1:=(iL c (2*t+1) i d).2 ⟨by omega,by omega⟩;have o:j / c=2*t+1:=(iL c (2*t+1) j d).2 ⟨by omega,by omega⟩;exact y.srt i j z (by omega) (by omega) (h.trans o.symm)
theorem ex.rest{key o f:Nat->Nat}{c n t:Nat}(d:0<c)(q:ex key o f c n n)(D:n<=2*c*t+c):bw key f (2*c*t) n:=fun i j F y h=>by
 have G:2*c*t=c*(2*t):=by simp [fK,lS]
 have z:i / c=2*t:=(iL c (2*t) i d).2 ⟨by omega,by omega⟩
 have A:j / c=2*t:=(iL c (2*t) j d).2 ⟨by omega,by omega⟩
 exact q.srt i j y h h (z.trans A.symm)
theorem ex.whole{key h f:Nat->Nat}{c n:Nat}(o:ex key h f c n n)(y:n<=c):bw key f 0 n:=fun i j _ q d=>
 o.srt i j q d d (by rw [lq (by omega),lq (by omega)])
theorem ex.okay{key d f:Nat->Nat}{c n o:Nat}(y:ex key d f c n o){h:Nat->Prop}(z:∀ p,p<n->h (d p)):∀ p,p<n->h (f p):=fun p A=>by
 obtain⟨q,h1,_,h3⟩:=y.loc p A
 rw [h3];exact z q h1
end Go.Fk
