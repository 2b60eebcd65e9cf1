/- Parts of the proof of ArchEnds: SpecK SpecG SpecW SpecH SpecK2 SpecJ9 SpecLe SpecJ SpecJ2 SpecZ SpecY SpecY2 SpecC SpecN SpecR SpecT SpecX SpecQ SpecT2 SpecE SpecS SpecS2 SpecS3 SpecS4 SpecL SpecL2 Spec28b SpecF SpecI SpecM. -/
set_option linter.unusedVariables false
set_option linter.unusedSectionVars false
set_option linter.unusedSimpArgs false
set_option maxHeartbeats 8000000
namespace Go.Fk
abbrev ae:=@if_neg
abbrev aDQb:=@List.length_append
abbrev agQb:=@if_pos
abbrev amQb:=@Nat.le_refl
abbrev anQb:=@Nat.zero_le
abbrev azQb:=@Nat.le_trans
abbrev aG:=@List.length_take
abbrev bE:=@List.getElem?_eq_getElem
abbrev aU:=@List.length_drop
abbrev cD:=@List.getD_eq_getElem?_getD
abbrev aX:=@decide_eq_false
abbrev gy:=@List.take_succ_eq_append_getElem
abbrev dmQb:=@Nat.mul_le_mul_right
abbrev bJQb:=@Nat.mul_le_mul
abbrev bX:=@List.getElem_mem
abbrev cdQb:=@List.length_cons
abbrev eC:=@List.take_of_length_le
abbrev ep:=@Nat.pow_le_pow_right
abbrev jaQb:=@List.eq_nil_of_length_eq_zero
abbrev ip:=@List.drop_eq_getElem_cons
abbrev dOQb:=@List.take_length
abbrev bUQb:=@Nat.add_mul
abbrev io:=@List.getElem?_eq_none
abbrev fx:=@decide_eq_true_eq
abbrev eA:=@UInt8.toNat_inj
abbrev eN:=@List.length_map
abbrev eD:=@List.mem_range
abbrev j9Qb:=@List.take_append_drop
abbrev iY:=@List.take_succ_cons
abbrev gp:=@List.map_append
abbrev gq:=@List.append_nil
abbrev jX:=@List.length_replicate
abbrev et:=@Nat.add_zero
abbrev gxQb:=@Nat.min_eq_left
abbrev jA:=@List.map_congr_left
abbrev jV:=@List.mem_of_mem_take
abbrev jz:=@Nat.xor_lt_two_pow
abbrev iH:=@Bool.and_eq_true
abbrev lg:=@List.length_singleton
abbrev jU:=@Nat.eq_zero_or_pos
abbrev nu:=@List.getElem_append_right
abbrev iZ:=@List.mem_append
abbrev gTQb:=@List.map_cons
abbrev gw:=@Nat.mul_comm
abbrev g6Qb:=@List.mem_map
abbrev jY:=@List.getElem_map
abbrev of:=@List.getElem_append_left
abbrev lP:=@UInt8.toNat_ofNat'
abbrev lT:=@List.mem_singleton
abbrev kI:=@List.nil_append
abbrev lj:=@List.ext_getElem
abbrev mE:=@List.getElem_range
abbrev nY:=@Nat.div_lt_iff_lt_mul
abbrev iXQb:=@Nat.zero_add
abbrev lf:=@List.range_succ
abbrev kF:=@UInt8.toNat_lt
abbrev jW:=@List.mem_cons
abbrev mD:=@List.length_range
abbrev mG:=@List.append_assoc
abbrev ntQb:=@Nat.lt_of_lt_of_le
abbrev ld:=@List.take_zero
abbrev lU:=@List.mem_filter
abbrev lV:=@List.length_set
abbrev j8Qb:=@Nat.one_mul
abbrev mC:=@Nat.two_pow_pos
abbrev kG:=@Nat.pow_succ
abbrev nX:=@Nat.lt_trichotomy
abbrev lS:=@List.sum_cons
abbrev rB:=@List.filter_cons_of_pos
abbrev rC:=@List.filter_cons_of_neg
abbrev gSQb:=@congrArg
abbrev fy:=@Ne.symm
abbrev oV:=@List.getElem_take
abbrev nV:=@UInt8.xor_assoc
abbrev tA:=@Classical.byContradiction
abbrev kH:=@Nat.mod_lt
abbrev oU:=@Nat.mod_eq_of_lt
abbrev qh:=@List.pairwise_cons
abbrev no:=@Nat.xor_assoc
abbrev rA:=@List.flatten_append
abbrev qm:=@List.cons_append
abbrev oS:=@UInt8.xor_zero
abbrev vCQb:=@List.getElem?_append_right
abbrev rD:=@List.filter_append
abbrev tr:=@List.length_filter_le
abbrev vA:=@List.pairwise_iff_getElem
abbrev vDQb:=@List.getElem?_append_left
abbrev qf:=@List.sum_append
abbrev nZQb:=@List.map_map
abbrev vj:=@decide_eq_false_iff_not
abbrev qd:=@UInt8.xor_self
abbrev vw:=@Nat.div_div_eq_div_mul
abbrev ry:=@List.nodup_cons
abbrev vu:=@Nat.le_div_iff_mul_le
abbrev tj:=@Nat.div_eq_of_lt
abbrev qiQb:=@List.map_nil
abbrev tt:=@List.filter_cons
abbrev tz:=@List.countP_cons
abbrev rx:=@Nat.add_assoc
abbrev tp:=@Nat.div_add_mod
abbrev tg:=@UInt8.zero_xor
abbrev Fb:=@Nat.testBit_eq_decide_div_mod_eq
abbrev vp:=@Nat.mul_left_comm
abbrev vt:=@Nat.le_of_lt_succ
abbrev tqQb:=@List.take_take
abbrev vB:=@List.getElem_drop
abbrev vE:=@List.count_append
abbrev zp:=@List.countP_le_length
abbrev mA:=@if_true
abbrev nUQb:=@and_true
abbrev zm:=@List.mem_cons_of_mem
abbrev vF:=@List.cons.injEq
abbrev th:=@Nat.xor_zero
end Go.Fk
namespace Go.Fk
def aB(d:List UInt8)(l:Nat):Nat:=d.countP fun c=>c.toNat == l
theorem nL(d:List UInt8)(l:Nat):aB d l<=d.length:=zp
theorem qZ(l:Nat):aB [] l=0:=rfl
theorem D7(a b:List UInt8)(l:Nat):aB (a++b) l=aB a l+aB b l:=by simp [aB]
theorem yx(c:UInt8)(b:List UInt8)(l:Nat):aB (c::b) l=aB b l+if c.toNat=l then 1 else 0:=by
 simp [aB,tz]
theorem nK(d:List UInt8)(k l:Nat)(h:k<d.length):aB (d.take (k+1)) l=aB (d.take k) l+if d[k].toNat=l then 1 else 0:=by
 rw [gy h,D7,yx,qZ];omega
theorem uG(d:List UInt8)(k l:Nat):aB (d.take k) l<=aB d l:=by
 conv=>rhs;rw [<- j9Qb k d]
 rw [D7];omega
def bn(d:List UInt8):Nat->Nat
 | 0=>0
 | 1=>0
 | l+2=>2*(bn d (l+1)+aB d (l+1))
theorem uy(d:List UInt8)(l:Nat)(h:1<=l):bn d (l+1)=2*(bn d l+aB d l):=by
 obtain⟨k,rfl⟩:∃ k,l=k+1:=⟨l - 1,by omega⟩;rfl
theorem Da(d:List UInt8)(l:Nat):bn d l+2*d.length<=d.length*2 ^ (l+1):=by
 induction l with
 | zero=>simp [bn];omega
 | succ l o=>
  rcases jU l with rfl | h;· simp [bn];omega
  · rw [uy d l h];have:=nL d l;have e:d.length*2 ^ (l+1+1)=2*(d.length*2 ^ (l+1)):=(by rw [kG 2 (l+1)];simp [gw,vp]);rw [e];omega
def bM(d:List UInt8)(l s:Nat):Nat:=bn d l+aB (d.take s) l
theorem FU(d:List UInt8)(l s:Nat)(o:l<=15)(h:d.length<=300):bM d l s<=20000000:=by
 have h1:=Da d l;have h2:=uG d s l;have h3:=nL d l;have h4:d.length*2 ^ (l+1)<=300*2 ^ 16:=bJQb h (ep (by omega) (by omega));unfold bM;omega
theorem FT(d:List UInt8)(l:Nat):bM d l 0=bn d l:=by simp [bM,qZ]
theorem zV(d:List UInt8)(l s:Nat)(h:s<d.length):bM d l (s+1)=bM d l s+if d[s].toNat=l then 1 else 0:=by
 unfold bM;rw [nK _ _ _ h];omega
def dK(d:List UInt8):List Nat:=d.mapIdx fun s c=>if c=0 then 0 else bM d c.toNat s % 65536
theorem m7(d:List UInt8):(dK d).length=d.length:=by simp [dK]
theorem uF(d:List UInt8)(s:Nat)(h:s<d.length):(dK d)[s]'(by rw [m7];exact h)=if d[s]=0 then 0 else bM d d[s].toNat s % 65536:=by simp [dK]
def kQ(d:List UInt8):Nat:=(d.map fun c=>if c=0 then 0 else 2 ^ (15 - c.toNat)).sum
theorem uu(c:UInt8)(l:List UInt8):kQ (c::l)=(if c=0 then 0 else 2 ^ (15 - c.toNat))+kQ l:=rfl
theorem M8(d:List UInt8):kQ d<=d.length*16384:=by
 induction d with
 | nil=>simp [kQ]
 | cons c l o=>
  rw [uu,cdQb];have:(if c=0 then 0 else 2 ^ (15 - c.toNat))<=16384:=by
   split;· omega
   · rename_i h;have q:c.toNat≠0:=fun e=>h (eA.1 (by simpa using e));have:2 ^ (15 - c.toNat)<=2 ^ 14:=ep (by omega) (by omega);omega
  omega
def ce(f:Nat->Nat):Nat->Nat
 | 0=>0
 | l+1=>ce f l+f (l+1)
theorem AD(f g:Nat->Nat)(l:Nat):ce (fun k=>f k+g k) l=ce f l+ce g l:=by
 induction l with
 | zero=>rfl
 | succ l d=>simp only [ce,d];omega
theorem A8(l:Nat):ce (fun _=>0) l=0:=by induction l with | zero=>rfl | succ l d=>simp [ce,d]
theorem AA(c v:Nat)(l:Nat):ce (fun k=>if c=k then v else 0) l=if 1<=c/\c<=l then v else 0:=by
 induction l with
 | zero=>simp [ce];omega
 | succ l d=>
  rw [ce,d];by_cases h1:c=l+1;· subst h1;rw [ae (by omega),agQb rfl,agQb (by omega)];omega
  · rw [ae h1];by_cases h2:1<=c/\c<=l;· rw [agQb h2,agQb (by omega)];omega
    · rw [ae h2,ae (by omega)]
theorem AC(f g:Nat->Nat)(l:Nat)(h:∀ k,1<=k->k<=l->f k=g k):ce f l=ce g l:=by
 induction l with
 | zero=>rfl
 | succ l d=>rw [ce,ce,d (fun k a b=>h k a (by omega)),h (l+1) (by omega) (by omega)]
theorem A7(d:List UInt8)(h:∀ c∈d,c.toNat<=15):ce (fun l=>aB d l*2 ^ (15 - l)) 15=kQ d:=by
 induction d with
 | nil=>simp [qZ,kQ,A8]
 | cons c d z=>
  have q:=h c (by simp);rw [uu,<- z (fun c q=>h c (by simp [q]))];rw [AC (fun l => aB (c :: d) l * 2 ^ (15 - l)) (fun l => (aB d l * 2 ^ (15 - l)) + if c.toNat = l then 2 ^ (15 - c.toNat) else 0) 15 (fun k _ _ => by
   rw [yx, bUQb];by_cases e : c.toNat = k;· rw [agQb e, agQb e, e]; omega
   · rw [ae e, ae e]; omega)]
  rw [AD,AA];by_cases o:c=0;· subst o;simp
  · have A:c.toNat≠0:=fun e=>o (eA.1 (by simpa using e));rw [agQb (by omega),ae o];omega
def jc(d:List UInt8):Nat:=d.countP fun c=>c != 0
theorem FD(d:List UInt8):jc d<=d.length:=zp
theorem Il(d:List UInt8)(h:∀ c∈d,c.toNat<=15):ce (aB d) 15=jc d:=by
 induction d with
 | nil=>exact A8 15
 | cons c d z=>
  have q:=h c (by simp);rw [AC (aB (c::d)) (fun l=>aB d l+if c.toNat=l then 1 else 0) 15 (fun k _ _=>yx c d k),AD,AA,z (fun c q=>h c (by simp [q]))];unfold jc;rw [tz];by_cases o:c=0;· subst o;simp
  · have A:c.toNat≠0:=fun e=>o (eA.1 (by simpa using e));simp [o];omega
def cI(d:List UInt8):Bool:=decide (jc d=0) || decide (kQ d=32768) || (decide (jc d=1) && decide (aB d 1=1))
theorem N8(d:List UInt8):∀ l,l<=15->(bn d l+(if l=0 then 0 else aB d l))*2 ^ (15 - l)=ce (fun k=>aB d k*2 ^ (15 - k)) l:=by
 intro l
 induction l with
 | zero=>intro _;simp [bn,ce]
 | succ l o=>
  intro h;rw [ce,<- o (by omega),ae (by omega)];rcases jU l with rfl | q;· simp [bn]
  · rw [uy _ _ q,ae (by omega),show 15 - l=(15 - (l+1))+1 by omega,kG,bUQb (2*_)];simp only [Nat.mul_assoc,gw,vp]
theorem Ip(f:Nat->Nat)(a b:Nat)(h:a<=b):ce f a<=ce f b:=by
 induction b with
 | zero=>rw [Nat.le_zero.1 h];exact amQb _
 | succ b d=>
  by_cases e:a=b+1;· rw [e];exact amQb _
  · rw [ce];have:=d (by omega);omega
theorem KV(o:List UInt8)(h:cI o=true):kQ o<=32768:=by
 unfold cI at h;simp only [Bool.or_eq_true,iH,fx]at h;rcases h with(h | h) | ⟨h,_⟩
 · have:∀ l:List UInt8,jc l=0->kQ l=0:=by
     intro l
     induction l with
     | nil=>intro _;rfl
     | cons c l q=>
      intro e;unfold jc at e;rw [tz]at e
      have z : c = 0 := by by_cases d : c = 0; · exact d
                           · simp [d]at e
      rw [uu,agQb z,q (by unfold jc;omega)]
   rw [this o h];omega
 · omega
 · have:∀ l:List UInt8,jc l<=1->kQ l<=jc l*16384:=by
     intro l
     induction l with
     | nil=>intro _;simp [kQ]
     | cons c l q=>
      intro e;unfold jc at e ⊢;rw [tz]at e ⊢;rw [uu];have A:=q (by unfold jc;omega);unfold jc at A;by_cases d:c=0;· simp [d];omega
      · have B:c.toNat≠0:=fun e=>d (eA.1 (by simpa using e));have:2 ^ (15 - c.toNat)<=2 ^ 14:=ep (by omega) (by omega);simp [d]at *;omega
   have:=this o (by omega);omega
theorem zW(d:List UInt8)(A:cI d=true)(o:∀ c∈d,c.toNat<=15)(s:Nat)(h:s<d.length)(B:d[s]≠0):bM d d[s].toNat s<2 ^ d[s].toNat:=by
 have h1:=KV d A;have q:=o _ (bX h);have D:d[s].toNat≠0:=fun e=>B (eA.1 (by simpa using e));have F:=zV d d[s].toNat s h;rw [agQb rfl]at F;have J:=uG d (s+1) d[s].toNat;have z:=N8 d d[s].toNat q;rw [ae D]at z;have G:=Ip (fun k=>aB d k*2 ^ (15 - k)) d[s].toNat 15 q;rw [A7 d o,<- z]at G;have h2:bM d d[s].toNat (s+1)<=bn d d[s].toNat+aB d d[s].toNat:=by unfold bM;omega
 have h3:(2:Nat) ^ d[s].toNat*2 ^ (15 - d[s].toNat)=32768:=by rw [<- Nat.pow_add,show d[s].toNat+(15 - d[s].toNat)=15 by omega]
 have I:=mC (15 - d[s].toNat);have h4:(bn d d[s].toNat+aB d d[s].toNat)*2 ^ (15 - d[s].toNat)<=2 ^ d[s].toNat*2 ^ (15 - d[s].toNat):=by omega
 have h5:=Nat.le_of_mul_le_mul_right h4 I;omega
def ew(a:Nat):Nat:=if a<128 then 2*a else(2*a - 256) ^^^ 29
def lF:Nat->Nat->Nat->Nat->Nat
 | 0,_,_,o=>o
 | f+1,a,b,o=>if b=0 then o else lF f (ew a) (b / 2) (if b % 2=1 then o ^^^ a else o)
def aJ(a b:Nat):Nat:=lF 8 a b 0
def B0(a b:Nat):Nat->Nat->Nat
 | 0,p=>p
 | f+1,p=>B0 a b f (if b / 2 ^ (7 - f) % 2=1 then p ^^^ (a*2 ^ (7 - f))else p)
def md:Nat->Nat->Nat
 | 0,p=>p
 | f+1,p=>md f (if p / 2 ^ (f+8) % 2=1 then p ^^^ (285*2 ^ f)else p)
def SZ(a b:Nat):Nat:=md 7 (B0 a b 8 0)
def mf:Nat->Nat->Nat->Nat->Nat
 | 0,_,_,o=>o
 | f+1,a,n,o=>if n=0 then o else mf f (aJ a a) (n / 2) (if n % 2=1 then aJ o a else o)
def lJ(a:Nat):Nat:=mf 8 a 254 1
def gP(n:Nat)(p:Nat->Bool):Bool:=
 match n with
 | 0=>true
 | n+1=>p n && gP n p
theorem iD(n:Nat)(p:Nat->Bool)(h:gP n p=true):∀ i,i<n->p i=true:=by
 induction n with
 | zero=>intro i d;omega
 | succ n o=>
  rw [gP,iH]at h;intro i d;by_cases e:i=n;· subst e;exact h.1
  · exact o h.2 i (by omega)
def cH:Nat->Nat->Nat->Nat
 | 0,_,_=>0
 | f+1,a,b=>(if b % 2=1 then a else 0) ^^^ cH f (ew a) (b / 2)
theorem AE(f:Nat):∀ a,cH f a 0=0:=by
 induction f with
 | zero=>intro a;rfl
 | succ f d=>intro a;simp [cH,d]
theorem Lz(f:Nat):∀ a b o,lF f a b o=o ^^^ cH f a b:=by
 induction f with
 | zero=>intro a b o;simp [lF,cH]
 | succ f d=>
  intro a b o;rw [lF,cH];by_cases h:b=0;· subst h;simp [AE]
  · rw [ae h,d];by_cases h2:b % 2=1;· simp [h2,no]
    · simp [h2]
theorem ml(a b:Nat):aJ a b=cH 8 a b:=by unfold aJ;rw [Lz];simp
theorem yG(p q k:Nat):((p ^^^ q) / 2 ^ k % 2=1)↔¬((p / 2 ^ k % 2=1)↔(q / 2 ^ k % 2=1)):=by
 have h:=Nat.testBit_xor p q k;rw [Fb,Fb,Fb]at h;by_cases h1:p / 2 ^ k % 2=1 <;> by_cases h2:q / 2 ^ k % 2=1 <;> simp [h1,h2]at h ⊢ <;> exact h
theorem tH(a b c d:Nat):(a ^^^ b) ^^^ (c ^^^ d)=(a ^^^ c) ^^^ (b ^^^ d):=by
 rw [no,<- no b c d,Nat.xor_comm b c,no c b d,<- no]
theorem MQ(p q k c:Nat):(if(p ^^^ q) / 2 ^ k % 2=1 then(p ^^^ q) ^^^ c else p ^^^ q)=(if p / 2 ^ k % 2=1 then p ^^^ c else p) ^^^ (if q / 2 ^ k % 2=1 then q ^^^ c else q):=by
 have h:=yG p q k;by_cases h1:p / 2 ^ k % 2=1 <;> by_cases h2:q / 2 ^ k % 2=1;· rw [ae (by rw [h];simp [h1,h2]),agQb h1,agQb h2,tH,Nat.xor_self,th]
 · rw [agQb (by rw [h];simp [h1,h2]),agQb h1,ae h2,no,no,Nat.xor_comm q c]
 · rw [agQb (by rw [h];simp [h1,h2]),ae h1,agQb h2,no]
 · rw [ae (by rw [h];simp [h1,h2]),ae h1,ae h2]
theorem J2(f:Nat):∀ p q,md f (p ^^^ q)=md f p ^^^ md f q:=by
 induction f with
 | zero=>intro p q;rfl
 | succ f d=>intro p q;rw [md,md,md,MQ,d]
def rN:Nat->Nat->Nat
 | 0,a=>a
 | n+1,a=>rN n (ew a)
theorem J4:gP 256 (fun a=>gP 8 fun i=>md 7 (a*2 ^ i) == rN i a && decide (rN i a<256))=true:=by decide +kernel
theorem J3(a i:Nat)(d:a<256)(h:i<8):md 7 (a*2 ^ i)=rN i a/\rN i a<256:=by
 have:=iD 8 _ (iD 256 _ J4 a d) i h;simpa using this
theorem Gw:gP 256 (fun a=>decide (ew a<256))=true:=by decide +kernel
theorem pd(a:Nat)(d:a<256):ew a<256:=by have:=iD 256 _ Gw a d;simpa using this
theorem A0(f:Nat):∀ a b,a<256->cH f a b<256:=by
 induction f with
 | zero=>intro a b _;simp [cH]
 | succ f d=>intro a b h;rw [cH];have h1:(if b % 2=1 then a else 0)<2 ^ 8:=(by split <;> omega);have h2:cH f (ew a) (b / 2)<2 ^ 8:=d _ _ (pd a h);exact jz h1 h2
theorem mT(a b:Nat)(d:a<256):aJ a b<256:=by rw [ml];exact A0 8 a b d
theorem Ik(f:Nat):∀ a b c,cH f a (b ^^^ c)=cH f a b ^^^ cH f a c:=by
 induction f with
 | zero=>intro a b c;simp [cH]
 | succ f d=>
  intro a b c;rw [cH,cH,cH,Nat.xor_div_two,d,tH];congr 1;have h:=yG b c 0;simp only [Nat.pow_zero,Nat.div_one]at h;by_cases h1:b % 2=1 <;> by_cases h2:c % 2=1;· rw [ae (by rw [h];simp [h1,h2]),agQb h1,agQb h2,Nat.xor_self]
  · rw [agQb (by rw [h];simp [h1,h2]),agQb h1,ae h2,th]
  · rw [agQb (by rw [h];simp [h1,h2]),ae h1,agQb h2,Nat.zero_xor]
  · rw [ae (by rw [h];simp [h1,h2]),ae h1,ae h2,th]
theorem pI(a b c:Nat):aJ a (b ^^^ c)=aJ a b ^^^ aJ a c:=by rw [ml,ml,ml,Ik]
theorem vY(a:Nat)(d:a<256):ew a=md 7 (a*2):=(J3 a 1 d (by omega)).1.symm
theorem Ab(p q:Nat)(d:p<256)(h:q<256):ew (p ^^^ q)=ew p ^^^ ew q:=by
 have o:p ^^^ q<2 ^ 8:=jz d h;rw [vY _ o,vY p d,vY q h,<- J2];congr 1;have:=Nat.shiftLeft_xor_distrib (a:=p) (b:=q) (i:=1);simpa [Nat.shiftLeft_eq] using this
theorem Im(f:Nat):∀ a b,a<256->cH f (ew a) b=ew (cH f a b):=by
 induction f with
 | zero=>intro a b _;rfl
 | succ f h=>intro a b d;have h1:(if b % 2=1 then a else 0)<256:=(by split <;> omega);rw [cH,cH,Ab _ _ h1 (A0 f _ _ (pd a d)),h _ _ (pd a d)];congr 1;split <;> rfl
theorem In(f:Nat):∀ a c,c<2 ^ f->cH (f+1) a c=cH f a c:=by
 induction f with
 | zero => intro a c h; have : c = 0 := by omega
           subst this;simp [cH]
 | succ f d=>intro a c h;have e:=d (ew a) (c / 2) (by rw [kG]at h;omega);show(if c % 2=1 then a else 0) ^^^ cH (f+1) (ew a) (c / 2)=(if c % 2=1 then a else 0) ^^^ cH f (ew a) (c / 2);rw [e]
theorem Lx(a b:Nat)(d:a<256)(h:b<256):aJ a b=ew (aJ a (b / 2)) ^^^ (if b % 2=1 then a else 0):=by
 rw [ml,ml,In 7 a (b / 2) (by omega),cH,Im 7 a _ d,Nat.xor_comm]
theorem MF:gP 256 (fun a=>a == 0 || (decide (lJ a<256) && aJ a (lJ a) == 1 && gP 8 fun k=>aJ (lJ a) (aJ a (2 ^ k)) == 2 ^ k))=true:=by decide +kernel
theorem CE(a:Nat)(d:a≠0)(o:a<256):lJ a<256/\aJ a (lJ a)=1/\∀ k,k<8->aJ (lJ a) (aJ a (2 ^ k))=2 ^ k:=by
 have:=iD 256 _ MF a o;simp only [Bool.or_eq_true,iH,beq_iff_eq,fx]at this;rcases this with h | ⟨⟨h1,h2⟩,h3⟩;· exact absurd h d
 · exact⟨h1,h2,fun k q=>by simpa using iD 8 _ h3 k q⟩
def kW(i k:Nat):Nat:=if i / 2 ^ k % 2=1 then 2 ^ k else 0
def sH(i:Nat):Nat:=kW i 0 ^^^ (kW i 1 ^^^ (kW i 2 ^^^ (kW i 3 ^^^ (kW i 4 ^^^ (kW i 5 ^^^ (kW i 6 ^^^ kW i 7))))))
theorem PV:gP 256 (fun i=>sH i == i)=true:=by decide +kernel
theorem BW(a:Nat):aJ a 0=0:=by rw [ml,AE]
theorem Io(f:Nat):∀ b,cH f 0 b=0:=by
 induction f with
 | zero=>intro b;rfl
 | succ f d=>intro b;rw [cH,show ew 0=0 from rfl,d];simp
theorem BV(b:Nat):aJ 0 b=0:=by rw [ml,Io]
def cO(x:Nat):Nat->List UInt8
 | 0=>[]
 | n+1=>UInt8.ofNat (x / 2 ^ n % 2)::cO x n
theorem nM(x n:Nat):(cO x n).length=n:=by induction n with | zero=>rfl | succ n d=>simp [cO,d]
def nQ(l:List UInt8):Prop:=∀ c∈l,c=0\/c=1
theorem nQ.app{a b:List UInt8}(h1:nQ a)(h2:nQ b):nQ (a++b):=by
 intro c d;rcases iZ.1 d with h | h;· exact h1 c h
 · exact h2 c h
def Gf(n:Nat):List UInt8:=List.replicate n 0++[1]
def gN(l:List UInt8)(i:Nat):Nat:=(l.getD i 0).toNat
def gt(l:List UInt8)(q:Nat):Nat:=
 gN l (8*q)*128+gN l (8*q+1)*64+gN l (8*q+2)*32+gN l (8*q+3)*16+gN l (8*q+4)*8+gN l (8*q+5)*4+gN l (8*q+6)*2+gN l (8*q+7)
def ej(l:List UInt8):List UInt8:=(List.range ((l.length+7) / 8)).map fun q=>UInt8.ofNat (gt l q)
theorem pB(l:List UInt8):(ej l).length=(l.length+7) / 8:=by simp [ej]
theorem oN{l:List UInt8}(h:nQ l)(i:Nat):gN l i<=1:=by
 unfold gN;by_cases d:i<l.length;· rw [cD,bE d];rcases h _ (bX d)with e | e <;> simp [e]
 · rw [cD,io (by omega)];simp
theorem DT{l:List UInt8}(h:nQ l)(q:Nat):gt l q<256:=by
 unfold gt;have d:=oN h (8*q);have h1:=oN h (8*q+1);have h2:=oN h (8*q+2);have h3:=oN h (8*q+3);have h4:=oN h (8*q+4);have h5:=oN h (8*q+5);have o:=oN h (8*q+6);have z:=oN h (8*q+7);omega
theorem lO(l:List UInt8)(i:Nat)(h:l.length<=i):gN l i=0:=by
 unfold gN;rw [cD,io h];rfl
theorem Qb(l:List UInt8)(x:UInt8)(i:Nat)(h:i<l.length):gN (l++[x]) i=gN l i:=by
 unfold gN;rw [cD,cD,vDQb h]
theorem Qc(l:List UInt8)(x:UInt8):gN (l++[x]) l.length=x.toNat:=by
 unfold gN;rw [cD,vCQb (amQb _)];simp
theorem nN(l:List UInt8)(x:UInt8)(i:Nat)(h:i≠l.length):gN (l++[x]) i=gN l i:=by
 by_cases d:i<l.length;· exact Qb l x i d
 · rw [lO (l++[x]) i (by simp;omega),lO l i (by omega)]
theorem PH(l:List UInt8)(x:UInt8)(q:Nat)(h:q≠l.length / 8):gt (l++[x]) q=gt l q:=by
 unfold gt;rw [nN l x _ (by omega),nN l x _ (by omega),nN l x _ (by omega),nN l x _ (by omega),nN l x _ (by omega),nN l x _ (by omega),nN l x _ (by omega),nN l x _ (by omega)]
theorem PI(l:List UInt8)(x:UInt8):gt (l++[x]) (l.length / 8)=gt l (l.length / 8)+x.toNat*2 ^ (7 - l.length % 8):=by
 obtain⟨q,r,G,A⟩:∃ q r,r<8/\l.length=8*q+r:=⟨l.length / 8,l.length % 8,by omega,by omega⟩;have B:l.length / 8=q:=by omega
 have D:l.length % 8=r:=by omega
 rw [B,D];have o:=Qc l x;have z:=lO l l.length (amQb _);rw [A]at o z;have d:=fun i (h:i≠8*q+r)=>nN l x i (by rw [A];exact h);unfold gt;have F:r=0\/r=1\/r=2\/r=3\/r=4\/r=5\/r=6\/r=7:=by omega
 rcases F with rfl | rfl | rfl | rfl | rfl | rfl | rfl | rfl <;>
  (try simp only [et] at o z d
   try rw [d (8 * q) (by omega)]
   try rw [d (8 * q + 1) (by omega)]
   try rw [d (8 * q + 2) (by omega)]
   try rw [d (8 * q + 3) (by omega)]
   try rw [d (8 * q + 4) (by omega)]
   try rw [d (8 * q + 5) (by omega)]
   try rw [d (8 * q + 6) (by omega)]
   try rw [d (8 * q + 7) (by omega)]
   rw [o, z]
   simp only [Nat.reduceSub, Nat.reducePow]
   omega)
theorem PJ{l:List UInt8}(q s:Nat)(z:s<8)(h:l.length<=8*q+(7 - s)):gt l q / 2 ^ s % 2=0:=by
 unfold gt;have o:s=0\/s=1\/s=2\/s=3\/s=4\/s=5\/s=6\/s=7:=by omega
 have d:=fun i (h2:8*q+(7 - s)<=i)=>lO l i (azQb h h2)
 rcases o with rfl | rfl | rfl | rfl | rfl | rfl | rfl | rfl <;>
  (simp only [Nat.reducePow]
   try rw [d (8 * q) (by omega)]
   try rw [d (8 * q + 1) (by omega)]
   try rw [d (8 * q + 2) (by omega)]
   try rw [d (8 * q + 3) (by omega)]
   try rw [d (8 * q + 4) (by omega)]
   try rw [d (8 * q + 5) (by omega)]
   try rw [d (8 * q + 6) (by omega)]
   try rw [d (8 * q + 7) (by omega)]
   all_goals omega)
theorem K9:gP 256 (fun y=>gP 8 fun s=>!(y / 2 ^ s % 2 == 0) || (y ||| 2 ^ s) == y+2 ^ s)=true:=by decide +kernel
theorem K8(y s:Nat)(d:y<256)(o:s<8)(h:y / 2 ^ s % 2=0):y ||| 2 ^ s=y+2 ^ s:=by
 have:=iD 8 _ (iD 256 _ K9 y d) s o;simpa [h] using this
theorem Kw(l:List UInt8)(x:UInt8)(z:nQ l)(A:x=0\/x=1) :
  ej (l++[x])=((if l.length % 8=0 then ej l++[0]else ej l).set (l.length / 8) (UInt8.ofNat (gt l (l.length / 8) ||| x.toNat*2 ^ (7 - l.length % 8)))):=by
 have B:gt l (l.length / 8) ||| x.toNat*2 ^ (7 - l.length % 8)=gt (l++[x]) (l.length / 8):=by
  rw [PI];rcases A with rfl | rfl;· simp
  · have D:UInt8.toNat 1=1:=rfl;rw [D,j8Qb];exact K8 _ _ (DT z _) (by omega) (PJ _ _ (by omega) (by omega))
 rw [B];apply lj
 · rw [pB,lV,aDQb,lg];split;· rw [aDQb,pB];simp;omega
   · rw [pB];omega
 · intro q h1 h2;have I:q<(l.length+1+7) / 8:=(by rw [pB]at h1;simpa using h1);rw [List.getElem_set];by_cases e:l.length / 8=q;· rw [agQb e];simp [ej,e]
   · rw [ae e];have F:q<(l.length+7) / 8:=(by omega);have G:(ej (l++[x]))[q]=UInt8.ofNat (gt l q):=(by simp [ej,PH l x q (fun h=>e h.symm)]);have d:∀ h,(ej l)[q]'h=UInt8.ofNat (gt l q):=fun h=>(by simp [ej]);rw [G];by_cases o:l.length % 8=0;· simp only [agQb o];rw [of (by rw [pB];exact F)];exact(d _).symm
     · simp only [ae o];exact(d _).symm
theorem Kx(l:List UInt8)(q:Nat)(h:q<(ej l).length):(ej l)[q]=UInt8.ofNat (gt l q):=by simp [ej]
theorem PG(l:List UInt8)(q:Nat)(h:l.length<=8*q):gt l q=0:=by
 unfold gt;rw [lO l _ (by omega),lO l _ (by omega),lO l _ (by omega),lO l _ (by omega),lO l _ (by omega),lO l _ (by omega),lO l _ (by omega),lO l _ (by omega)]
def fM(d:List UInt8)(s l:Nat):Nat:=if aB (d.take s) l=0 then 0 else bn d l % 65536
def sM(d:List UInt8)(s l:Nat):List Nat:=(List.range s).filter fun i=>(d.getD i 0).toNat == l
theorem IY(d:List UInt8)(l:Nat):sM d 0 l=[]:=rfl
theorem NP(d:List UInt8)(l:Nat):fM d 0 l=0:=by simp [fM,qZ]
theorem tV(d:List UInt8)(s l:Nat)(h:s<d.length):sM d (s+1) l=sM d s l++if d[s].toNat=l then [s]else []:=by
 have e:d.getD s 0=d[s]:=by rw [cD,bE h];rfl
 unfold sM;rw [lf,rD];congr 1;simp only [tt,List.filter_nil,e];by_cases h2:d[s].toNat=l <;> simp [h2]
theorem wC(d:List UInt8)(s l:Nat)(h:s<=d.length):(sM d s l).length=aB (d.take s) l:=by
 induction s with
 | zero=>simp [sM,qZ]
 | succ s o=>rw [tV d s l h,aDQb,o (by omega),nK _ _ _ h];split <;> rfl
theorem De(d:List UInt8)(s l:Nat)(h:s<d.length):fM d (s+1) l=if d[s].toNat=l then bn d l % 65536 else fM d s l:=by
 unfold fM;rw [nK _ _ _ h];by_cases h2:d[s].toNat=l;· rw [agQb h2,agQb h2,ae (by omega)]
 · rw [ae h2,ae h2];rfl
theorem NB(d:List UInt8)(s:Nat)(h:s<d.length)(o:d[s]≠0)(q:aB (d.take s) d[s].toNat=0):(dK d)[s]'(by rw [m7];exact h)=bn d d[s].toNat % 65536:=by
 rw [uF d s h,ae o];unfold bM;rw [q,et]
theorem N9(d:List UInt8)(s l:Nat)(h:aB (d.take s) l≠0):fM d s l=bn d l % 65536:=by unfold fM;rw [ae h]
def bN(d:List UInt8)(s:Nat):Nat:=(d.getD s 0).toNat
theorem n0(d:List UInt8)(s:Nat)(h:s<d.length):bN d s=d[s].toNat:=by
 unfold bN;rw [cD,bE h];rfl
theorem tQ(d:List UInt8)(s:Nat)(h:d.length<=s):bN d s=0:=by
 unfold bN;rw [cD,io h];rfl
def rm(d:List UInt8)(s:Nat):List UInt8:=if bN d s=0 then []else cO ((dK d).getD s 0) (bN d s)
theorem PZ(d:List UInt8)(s:Nat)(h:bN d s=0):rm d s=[]:=agQb h
theorem PY(d:List UInt8)(s:Nat)(h:bN d s≠0):rm d s=cO ((dK d).getD s 0) (bN d s):=ae h
theorem Ej(d:List UInt8)(s:Nat)(h:∀ c∈d,c.toNat<=15):(rm d s).length<=15:=by
 unfold rm;split;· simp
 · rename_i h2;rw [nM];by_cases o:s<d.length;· rw [n0 d s o];exact h _ (bX o)
   · rw [tQ d s (by omega)]at h2;exact absurd rfl h2
theorem Pi(d:List UInt8)(s:Nat)(h:s<d.length):(dK d).getD s 0=(dK d)[s]'(by rw [m7];exact h):=by
 rw [cD,bE];rfl
theorem Pj(d:List UInt8)(q:cI d=true)(z:∀ c∈d,c.toNat<=15)(s:Nat)(h:s<d.length)(o:d[s]≠0):(dK d)[s]'(by rw [m7];exact h)<2 ^ d[s].toNat:=by
 rw [uF d s h,ae o];exact Nat.lt_of_le_of_lt (Nat.mod_le _ _) (zW d q z s h o)
theorem D6(d:List UInt8)(s:Nat)(h:s<(dK d).length):(dK d)[s]<65536:=by
 rw [uF d s (by rw [m7]at h;exact h)];split;· omega
 · exact kH _ (by omega)
def eb:List UInt8->Nat->Nat
 | [],_=>0
 | _::_,0=>0
 | c::l,k+1=>if c=0 then eb l k+1 else 0
theorem Fi(l:List UInt8):∀ k,eb l k<=k/\eb l k<=l.length:=by
 induction l with
 | nil=>intro k;simp [eb]
 | cons c l d=>
  intro k
  cases k with
  | zero=>simp [eb]
  | succ k=>
   rw [eb];have:=d k;split;· rw [cdQb];omega
   · omega
theorem Ff(l:List UInt8):eb l 0=0:=by cases l <;> rfl
def fz:List UInt8->List UInt8
 | []=>[]
 | c::r=>if c=0 then cO 0 4++(cO (eb r 63) 6++fz (r.drop (eb r 63)))else cO c.toNat 4++fz r
termination_by l=>l.length
decreasing_by
 · rw [aU,cdQb];omega
 · rw [cdQb];omega
theorem vQ:fz []=[]:=by rw [fz]
theorem zK(r:List UInt8)(c:UInt8)(h:c=0):fz (c::r)=cO 0 4++(cO (eb r 63) 6++fz (r.drop (eb r 63))):=by rw [fz,agQb h]
theorem zL(r:List UInt8)(c:UInt8)(h:c≠0):fz (c::r)=cO c.toNat 4++fz r:=by rw [fz,ae h]
theorem zM:∀ (n:Nat) (l:List UInt8),l.length<=n->(fz l).length<=10*l.length:=by
 intro n
 induction n with
 | zero=>intro l h;rw [jaQb (Nat.le_zero.1 h),vQ];simp
 | succ n d=>
  intro l h
  cases l with
  | nil=>rw [vQ];simp
  | cons c r=>
   rw [cdQb]at h;by_cases o:c=0;· rw [zK r c o,aDQb,aDQb,nM,nM];have h1:=d (r.drop (eb r 63)) (by rw [aU];omega);have h2:=(Fi r 63).2;rw [aU]at h1;rw [cdQb];omega
   · rw [zL r c o,aDQb,nM];have h1:=d r (by omega);rw [cdQb];omega
theorem Fg(l:List UInt8)(i k:Nat)(h:i<l.length)(d:l[i]=0):eb (l.drop i) (k+1)=eb (l.drop (i+1)) k+1:=by
 rw [ip h,eb,agQb d]
theorem Fh(l:List UInt8)(i k:Nat)(h:i<l.length)(d:l[i]≠0):eb (l.drop i) k=0:=by
 rw [ip h]
 cases k with
 | zero=>rfl
 | succ k=>rw [eb,ae d]
theorem Fj(l:List UInt8)(i k:Nat)(h:l.length<=i):eb (l.drop i) k=0:=by rw [List.drop_eq_nil_of_le h];rfl
theorem CZ(d:List UInt8)(l:Nat)(h1:1<=l)(h2:l<=14):bn d (l+1)*2 ^ (15 - (l+1))=(bn d l+aB d l)*2 ^ (15 - l):=by
 rw [uy d l h1,show 15 - l=(15 - (l+1))+1 by omega,kG,gw 2 (bn d l+aB d l),Nat.mul_assoc,gw 2]
theorem NA(o:List UInt8)(l:Nat)(h1:1<=l):∀ d,l+1+d<=15->(bn o l+aB o l)*2 ^ (15 - l)<=bn o (l+1+d)*2 ^ (15 - (l+1+d)):=by
 intro d
 induction d with
 | zero=>intro h;rw [et,CZ o l h1 (by omega)];exact amQb _
 | succ d q=>intro h;refine azQb (q (by omega)) ?_;rw [show l+1+(d+1)=(l+1+d)+1 by omega,CZ o (l+1+d) (by omega) (by omega)];exact dmQb _ (by omega)
theorem BJ(d:List UInt8)(x l m:Nat)(h1:1<=l)(h2:l<m)(h3:m<=15)(h4:x / 2 ^ (15 - l)<bn d l+aB d l)(h5:bn d m<=x / 2 ^ (15 - m)):False:=by
 have e:m=l+1+(m - (l+1)):=by omega
 have h:=NA d l h1 (m - (l+1)) (by omega);rw [<- e]at h;have o:=(nY (mC _)).1 h4;have q:=(vu (mC _)).1 h5;omega
def qS(d:List UInt8)(x h s:Nat):Bool:=
 decide (0<bN d s) && decide (bN d s<=h) && decide (x / 2 ^ (15 - bN d s)=bM d (bN d s) s)
def mX(d:List UInt8)(x h:Nat):Option Nat:=(List.range d.length).find? (qS d x h)
theorem uw(d:List UInt8)(x o s:Nat):qS d x o s=true↔0<bN d s/\bN d s<=o/\x / 2 ^ (15 - bN d s)=bM d (bN d s) s:=by
 unfold qS;simp only [iH,fx];exact⟨fun h=>⟨h.1.1,h.1.2,h.2⟩,fun h=>⟨⟨h.1,h.2.1⟩,h.2.2⟩⟩
theorem tW(d:List UInt8)(l:Nat):∀ n,n<=d.length->∀ k,k<aB (d.take n) l->∃ s,s<n/\(sM d n l)[k]?=some s/\bN d s=l/\aB (d.take s) l=k:=by
 intro n
 induction n with
 | zero=>intro _ k h;simp [aB]at h
 | succ n o=>
  intro A k h;have q:=wC d n l (by omega);rw [nK _ _ _ (show n<d.length by omega)]at h;rw [tV d n l (by omega)];by_cases z:k<aB (d.take n) l;· obtain⟨s,h1,h2,h3,h4⟩:=o (by omega) k z;exact⟨s,by omega,by rw [vDQb (by omega)];exact h2,h3,h4⟩
  · by_cases h2:d[n].toNat=l;· rw [agQb h2]at h;refine⟨n,by omega,?_,by rw [n0 d n (by omega)];exact h2,by omega⟩;rw [agQb h2,vCQb (by omega),q,show k - aB (d.take n) l=0 by omega];rfl
    · rw [ae h2]at h;omega
theorem yw(d:List UInt8)(s l:Nat)(o:s<d.length)(h:bN d s=l):aB (d.take s) l<aB d l:=by
 have h1:=uG d (s+1) l;rw [nK _ _ _ o,agQb (by rw [<- n0 d s o];exact h)]at h1;omega
theorem Pk(d:List UInt8)(l s t:Nat)(o:s<d.length)(q:t<d.length)(h1:bN d s=l)(h2:bN d t=l)(h:aB (d.take s) l=aB (d.take t) l):s=t:=by
 have key:∀ a b,a<b->b<d.length->bN d a=l->aB (d.take a) l<aB (d.take b) l:=by intro a b A B z;have e:(d.take b).take (a+1)=d.take (a+1):=(by rw [tqQb,gxQb (by omega)]);have h3:=uG (d.take b) (a+1) l;rw [e,nK _ _ _ (show a<d.length by omega),agQb (by rw [<- n0 d a (by omega)];exact z)]at h3;omega
 rcases nX s t with h3 | h3 | h3;· have:=key s t h3 q h1;omega
 · exact h3
 · have:=key t s h3 o h2;omega
theorem Nd(d:List UInt8)(x o l k:Nat)(h1:1<=l)(h2:l<=o)(h3:o<=15)(F:k<aB d l)(G:x / 2 ^ (15 - l)=bn d l+k) :
  ∃ s,s<d.length/\(sM d d.length l)[k]?=some s/\mX d x o=some s/\bN d s=l:=by
 obtain⟨s,z,I,A,J⟩:=tW d l d.length (amQb _) k (by rw [dOQb];exact F);refine⟨s,z,I,?_,A⟩;have K:qS d x o s=true:=(uw _ _ _ _).2 ⟨by omega,by omega,by rw [A,G];unfold bM;rw [J]⟩;have L:∀ t,t<d.length->qS d x o t=true->t=s:=by
  intro t D h;obtain⟨M,R,q⟩:=(uw _ _ _ _).1 h;have U:=yw d t _ D rfl;have O:x / 2 ^ (15 - bN d t)<bn d (bN d t)+aB d (bN d t):=(by rw [q];unfold bM;omega);have Q:bn d (bN d t)<=x / 2 ^ (15 - bN d t):=(by rw [q];unfold bM;omega);rcases nX (bN d t) l with h4 | h4 | h4;· exact(BJ d x _ l M h4 (by omega) O (by omega)).elim
  · refine Pk d l t s D z h4 A ?_;rw [h4]at q;unfold bM at q;omega
  · exact(BJ d x l _ h1 h4 (by omega) (by omega) Q).elim
 unfold mX;cases B:(List.range d.length).find? (qS d x o)with
 | none=>exact absurd K (by simpa using List.find?_eq_none.1 B s (by simpa using z))
 | some t=>have h4:=List.find?_some B;have h5:=List.mem_of_find?_eq_some B;rw [L t (by simpa using h5) h4]
theorem Nc(d:List UInt8)(x o:Nat)(h:∀ l,1<=l->l<=o->¬(bn d l<=x / 2 ^ (15 - l)/\x / 2 ^ (15 - l)<bn d l+aB d l)):mX d x o=none:=by
 unfold mX;rw [List.find?_eq_none];intro s q z;obtain⟨A,B,D⟩:=(uw _ _ _ _).1 z;have F:=yw d s _ (by simpa using q) rfl;exact h _ A B (by rw [D];unfold bM;omega)
def mP(d:List UInt8)(y l:Nat):Bool:=(List.range d.length).any fun s=>decide (l<bN d s) && decide (bM d (bN d s) s / 2 ^ (bN d s - l)=y)
theorem B9(d:List UInt8)(y l:Nat)(q:∀ s,bN d s<=15):mP d y l=true↔∃ k,l<k/\k<=15/\0<aB d k/\y*2 ^ (k - l)<bn d k+aB d k/\bn d k<(y+1)*2 ^ (k - l):=by
 unfold mP;rw [List.any_eq_true];constructor;· rintro⟨s,o,h⟩;simp only [iH,fx]at h;obtain⟨h1,h2⟩:=h;have G:=yw d s _ (by simpa using o) rfl;have h3:=(Nat.div_eq_iff (mC _)).1 h2;have I:bM d (bN d s) s=bn d (bN d s)+aB (d.take s) (bN d s):=rfl;have J:=mC (bN d s - l);refine⟨bN d s,h1,q s,by omega,by omega,?_⟩;rw [bUQb,j8Qb];omega
 · rintro⟨k,h1,h2,h3,h4,h5⟩;obtain⟨j,z,A,B⟩:∃ j,j<aB d k/\y*2 ^ (k - l)<=bn d k+j/\bn d k+j<(y+1)*2 ^ (k - l):=by
    by_cases K:y*2 ^ (k - l)<=bn d k;· exact⟨0,h3,by omega,by omega⟩
    · refine⟨y*2 ^ (k - l) - bn d k,by omega,by omega,?_⟩;have:=mC (k - l);rw [bUQb,j8Qb];omega
   obtain⟨s,o,L,D,F⟩:=tW d k d.length (amQb _) j (by rw [dOQb];exact z);refine⟨s,by simpa using o,?_⟩;simp only [iH,fx];refine⟨by omega,?_⟩;rw [D];unfold bM;rw [F];exact Nat.div_eq_of_lt_le A B
def cK:List UInt8->Nat
 | []=>0
 | b::l=>b.toNat+256*cK l
theorem My(l:List UInt8)(b:UInt8):cK (l++[b])=cK l+b.toNat*256 ^ l.length:=by
 induction l with
 | nil=>simp [cK]
 | cons c l d=>rw [qm,cK,cK,d,cdQb,kG,Nat.mul_add,<- rx];congr 1;rw [vp,gw 256 (256 ^ l.length)]
theorem pN(l:List UInt8):cK l<256 ^ l.length:=by
 induction l with
 | nil=>simp [cK]
 | cons c l d=>have:=c.toNat_lt;rw [cK,cdQb,kG];omega
theorem ut(x b k:Nat)(h:x<2 ^ k):x ||| (b*2 ^ k)=x+b*2 ^ k:=by
 have:=Nat.two_pow_add_eq_or_of_lt h b;rw [Nat.or_comm,gw b,<- this,Nat.add_comm]
theorem Mx(l:List UInt8)(i:Nat)(h:i<l.length):cK (l.take (i+1))=cK (l.take i) ||| (l[i].toNat*2 ^ (8*i)):=by
 have e:l.take (i+1)=l.take i++[l[i]]:=by rw [List.take_add_one,bE h];rfl
 have d:(l.take i).length=i:=by rw [aG];omega
 have o:(256:Nat) ^ i=2 ^ (8*i):=by rw [Nat.pow_mul]
 have q:=pN (l.take i);rw [d,o]at q;rw [e,My,d,o,ut _ _ _ q]
def fI(i:Nat)(x:Nat):List UInt8->Nat × Nat × Nat
 | []=>(0,0,1)
 | c::t=>if(i=9/\¬c.toNat=1)\/(0<i/\c.toNat=0)then(0,0,2)else if c.toNat<128 then(x+c.toNat % 128*128 ^ i,i+1,0)else fI (i+1) (x+c.toNat % 128*128 ^ i) t
def bO(l:List UInt8):Nat × Nat × Nat:=fI 0 0 l
theorem uo(l:List UInt8):∀ (i x:Nat),i<=9->x<128 ^ i->(fI i x l).1<18446744073709551616/\((fI i x l).2.2=0->i<(fI i x l).2.1/\(fI i x l).2.1<=i+l.length/\(fI i x l).2.1<=10)/\(¬(fI i x l).2.2=0->(fI i x l).1=0/\(fI i x l).2.1=0/\(fI i x l).2.2<=2):=by
 induction l with
 | nil=>intro i x B o;simp [fI]
 | cons c t q=>
  intro i x B o;unfold fI;split;· simp
  · rename_i D;have F:c.toNat % 128<128:=kH _ (by omega);have z:x+c.toNat % 128*128 ^ i<128 ^ (i+1):=(by have:c.toNat % 128*128 ^ i<=127*128 ^ i:=dmQb _ (by omega);rw [kG];omega);by_cases G:i=9
    · have I:c.toNat=1:=(by omega);subst G;rw [agQb (by omega),I];have d:(128:Nat) ^ 9=9223372036854775808:=(by decide);rw [d]at o;refine⟨?_,?_,?_⟩;· have A:x+1 % 128*128 ^ 9=x+9223372036854775808:=(by rw [d]);show x+1 % 128*128 ^ 9<_;rw [A];clear z F d A D q;omega
      · intro _;show 9<9+1/\9+1<=9+(c::t).length/\9+1<=10;simp only [cdQb];omega
      · intro h;exact absurd rfl h
    · have J:(128:Nat) ^ (i+1)<=128 ^ 9:=ep (by omega) (by omega);have d:(128:Nat) ^ 9=9223372036854775808:=(by decide);split
      · refine⟨?_,?_,?_⟩;· show x+c.toNat % 128*128 ^ i<_;omega
        · intro _;simp;omega
        · intro h;simp at h
      · obtain⟨h1,h2,h3⟩:=q (i+1) _ (by omega) z;refine⟨h1,fun h=>?_,h3⟩;obtain⟨a,b,c⟩:=h2 h;refine⟨by omega,?_,c⟩;simp only [cdQb];omega
theorem xC(l:List UInt8):(bO l).1<18446744073709551616:=(uo l 0 0 (by omega) (by simp)).1
theorem xB(l:List UInt8)(h:(bO l).2.2=0):0<(bO l).2.1/\(bO l).2.1<=l.length/\(bO l).2.1<=10:=by
 have:=(uo l 0 0 (by omega) (by simp)).2.1 h;rw [iXQb]at this;exact this
theorem Ln(l:List UInt8)(h:¬(bO l).2.2=0):(bO l).1=0/\(bO l).2.1=0/\(bO l).2.2<=2:=(uo l 0 0 (by omega) (by simp)).2.2 h
def ay(d:Nat)(l:List UInt8):Nat × Nat × Nat:=
 if(bO l).2.2=0 then(if d<(bO l).1 then(0,0,6)else bO l)else(0,0,(bO l).2.2)
theorem lH(d:Nat)(l:List UInt8)(h:(ay d l).2.2=0):0<(ay d l).2.1/\(ay d l).2.1<=l.length/\(ay d l).1<=d:=by
 unfold ay at *;split at h
 · rename_i o;split at h;· simp at h
   · rename_i h1;rw [agQb o,ae h1];have:=xB l o;omega
 · rename_i o;exact absurd h o
theorem Mm(o:Nat)(l:List UInt8)(h:¬(ay o l).2.2=0):(ay o l).1=0/\(ay o l).2.1=0/\(ay o l).2.2<=6:=by
 unfold ay at *;split at h
 · rename_i d;split at h;· rename_i h1;rw [agQb d,agQb h1];simp
   · exact absurd d h
 · rename_i d;rw [ae d];have:=Ln l d;refine⟨rfl,rfl,?_⟩;show(bO l).2.2<=6;omega
structure Cs where
 at_:Nat
 er:Nat
def Cs.step(s:Cs)(r:Nat × Nat × Nat):Cs:=if s.er=0 then(if r.2.2=0 then⟨s.at_+r.2.1,0⟩else⟨s.at_,r.2.2⟩)else s
def Cs.val(s:Cs)(r:Nat × Nat × Nat):Nat:=if s.er=0/\r.2.2=0 then r.1 else 0
def Cs.num(s:Cs)(l:List UInt8):Nat × Cs:=(s.val (bO (l.drop s.at_)),s.step (bO (l.drop s.at_)))
def Cs.int(s:Cs)(l:List UInt8)(d:Nat):Nat × Cs:=(s.val (ay d (l.drop s.at_)),s.step (ay d (l.drop s.at_)))
def Cs.fail(s:Cs)(e:Nat):Cs:=if s.er=0 then⟨s.at_,e⟩else s
def Cs.fin(s:Cs)(l:List UInt8):Cs:=if s.er=0/\s.at_<l.length then⟨s.at_,2⟩else s
def Cs.take(s:Cs)(l:List UInt8)(k:Nat):List UInt8 × Cs:=
 if s.er=0 then(if l.length<s.at_+k then([],⟨s.at_,1⟩)else((l.drop s.at_).take k,⟨s.at_+k,0⟩))else([],s)
def Cs.byte(s:Cs)(l:List UInt8):Nat × Cs:=((((s.take l 1).1).getD 0 0).toNat,(s.take l 1).2)
def Cs.fixed(s:Cs)(l:List UInt8)(k:Nat):Nat × Cs:=(cK (s.take l k).1,(s.take l k).2)
def ed(d:Nat)(l:List UInt8):List UInt8 × Nat × Nat:=
 if(ay d l).2.2=0 then(if l.length<(ay d l).2.1+(ay d l).1 then([],0,1)else((l.drop (ay d l).2.1).take (ay d l).1,(ay d l).2.1+(ay d l).1,0))else([],0,(ay d l).2.2)
def Cs.text(s:Cs)(l:List UInt8)(d:Nat):List UInt8 × Cs:=
 (if s.er=0 then(ed d (l.drop s.at_)).1 else [],s.step (0,(ed d (l.drop s.at_)).2))
theorem tN(d:Nat)(l:List UInt8)(h:(ed d l).2.2=0):0<(ed d l).2.1/\(ed d l).2.1<=l.length/\(ed d l).1.length<=d:=by
 unfold ed at *;split at h
 · rename_i o;split at h;· simp at h
   · rename_i h1;rw [agQb o,ae h1];have:=lH d l o;refine⟨?_,?_,?_⟩;· show 0<(ay d l).2.1+(ay d l).1;omega
     · show(ay d l).2.1+(ay d l).1<=_;omega
     · show(List.take _ _).length<=_;rw [aG];omega
 · rename_i o;exact absurd h o
theorem Gt(d:Nat)(l:List UInt8)(h:¬(ed d l).2.2=0):(ed d l).1=[]/\(ed d l).2.1=0:=by
 unfold ed at *;split at h
 · rename_i o;split at h;· rename_i h1;rw [agQb o,agQb h1];simp
   · exact absurd rfl h
 · rename_i o;rw [ae o];simp
theorem Cs.step_le(s:Cs)(r:Nat × Nat × Nat)(n:Nat)(h:s.at_<=n)(h2:r.2.2=0->r.2.1<=n - s.at_):(s.step r).at_<=n:=by
 unfold Cs.step;split
 · split;· rename_i h3;have:=h2 h3;show s.at_+_<=n;omega
   · exact h
 · exact h
theorem Cs.num_le(s:Cs)(l:List UInt8)(h:s.at_<=l.length):(s.num l).2.at_<=l.length:=
 s.step_le _ _ h fun e=>by have:=xB _ e;rw [aU]at this;omega
theorem Cs.int_le(s:Cs)(l:List UInt8)(d:Nat)(h:s.at_<=l.length):(s.int l d).2.at_<=l.length:=
 s.step_le _ _ h fun e=>by have:=lH _ _ e;rw [aU]at this;omega
theorem Cs.text_le(s:Cs)(l:List UInt8)(d:Nat)(h:s.at_<=l.length):(s.text l d).2.at_<=l.length:=
 s.step_le _ _ h fun e=>by have h2:=(tN _ _ e).2.1;rw [aU]at h2;exact h2
theorem Cs.take_le(s:Cs)(l:List UInt8)(k:Nat)(h:s.at_<=l.length):(s.take l k).2.at_<=l.length:=by
 unfold Cs.take;split
 · split;· exact h
   · show s.at_+k<=_;omega
 · exact h
def fs(l:List UInt8)(i:Nat):Nat:=(l.getD (i / 8) 0).toNat / 2 ^ (7 - i % 8) % 2
theorem uS(l:List UInt8)(i:Nat):fs l i=0\/fs l i=1:=by unfold fs;omega
def SV(l:List UInt8):List UInt8:=(List.range (8*l.length)).map fun i=>UInt8.ofNat (fs l i)
def aI(l:List UInt8)(a:Nat):Nat->Nat
 | 0=>0
 | n+1=>2*aI l a n+fs l (a+n)
theorem nD(l:List UInt8)(a n:Nat):aI l a n<2 ^ n:=by
 induction n with
 | zero=>simp [aI]
 | succ n d=>have:=uS l (a+n);rw [aI,kG];omega
def ir(l:List UInt8):Nat->Nat->Option Nat
 | 0,_=>none
 | f+1,i=>if fs l i=1 then some i else ir l f (i+1)
theorem Gj(l:List UInt8)(i:Nat)(h:i<8*l.length):ir l (8*l.length - i) i=if fs l i=1 then some i else ir l (8*l.length - (i+1)) (i+1):=by
 have e:8*l.length - i=(8*l.length - (i+1))+1:=by omega
 rw [e,ir]
theorem Gl(l:List UInt8)(f:Nat):∀ i j,ir l f i=some j->i<=j/\j<i+f:=by
 induction f with
 | zero=>intro i j h;cases h
 | succ f d=>
  intro i j h;rw [ir]at h;split at h;· cases h;omega
  · have:=d _ _ h;omega
def du(l:List UInt8)(a:Nat):Nat × Nat × Nat:=
 match ir l (8*l.length - a) a with
 | some i=>(i - a,i+1,0)
 | none=>(0,a,1)
theorem zY(l:List UInt8)(a:Nat)(d:a<=8*l.length):a<=(du l a).2.1/\(du l a).2.1<=8*l.length/\(du l a).1<=8*l.length:=by
 unfold du
 cases h:ir l (8*l.length - a) a with
 | none=>exact⟨amQb _,d,anQb _⟩
 | some i=>have:=Gl _ _ _ _ h;show a<=i+1/\i+1<=_/\i - a<=_;omega
def dI(o w:Nat)(r:List UInt8):Nat->Nat->Nat->Nat->Nat->List Nat->List Nat × Nat × Nat
 | 0,_,a,_,_,h=>(h,a,0)
 | k+1,i,a,d,q,h=>
  if (du r a).2.2 = 0 then
   (if (d + (du r a).1) * 2 ^ w + aI r (w * i) w < q then ([], 0, 2)
    else if o ≤ (d + (du r a).1) * 2 ^ w + aI r (w * i) w then ([], 0, 8)
    else dI o w r k (i + 1) (du r a).2.1 (d + (du r a).1) ((d + (du r a).1) * 2 ^ w + aI r (w * i) w + 1) (h ++ [(d + (du r a).1) * 2 ^ w + aI r (w * i) w]))
  else([],0,1)
def uj(r:List UInt8)(a:Nat):Bool:=decide (aI r a ((8 - a % 8) % 8)=0)
def dX(d:Nat)(b:List UInt8):List Nat × Nat × Nat:=
 if (ay d b).2.2 = 0 then
  (if (ay d b).1 = 0 then ([], (ay d b).2.1, 0)
   else if 8 * (b.drop (ay d b).2.1).length < (ay d b).1 * Nat.log2 (d / (ay d b).1) then ([], 0, 1)
   else if (dI d (Nat.log2 (d / (ay d b).1)) (b.drop (ay d b).2.1) (ay d b).1 0 ((ay d b).1 * Nat.log2 (d / (ay d b).1)) 0 0 []).2.2 = 0 then
    (if uj (b.drop (ay d b).2.1) (dI d (Nat.log2 (d / (ay d b).1)) (b.drop (ay d b).2.1) (ay d b).1 0 ((ay d b).1 * Nat.log2 (d / (ay d b).1)) 0 0 []).2.1 then
     ((dI d (Nat.log2 (d / (ay d b).1)) (b.drop (ay d b).2.1) (ay d b).1 0 ((ay d b).1 * Nat.log2 (d / (ay d b).1)) 0 0 []).1,
      (ay d b).2.1 + ((dI d (Nat.log2 (d / (ay d b).1)) (b.drop (ay d b).2.1) (ay d b).1 0 ((ay d b).1 * Nat.log2 (d / (ay d b).1)) 0 0 []).2.1 + 7) / 8, 0)
     else ([], 0, 2))
   else ([], 0, (dI d (Nat.log2 (d / (ay d b).1)) (b.drop (ay d b).2.1) (ay d b).1 0 ((ay d b).1 * Nat.log2 (d / (ay d b).1)) 0 0 []).2.2))
 else([],0,(ay d b).2.2)
theorem Dm(o w:Nat)(r:List UInt8)(k:Nat):∀ (i a q z:Nat) (d:List Nat),a<=8*r.length->(dI o w r k i a q z d).2.2=0->(dI o w r k i a q z d).2.1<=8*r.length/\a<=(dI o w r k i a q z d).2.1/\(dI o w r k i a q z d).1.length=d.length+k/\((∀ x∈d,x<o)->∀ x∈(dI o w r k i a q z d).1,x<o):=by
 induction k with
 | zero=>intro i a q z d B _;exact⟨B,amQb _,rfl,fun h=>h⟩
 | succ k D=>
  intro i a q z d B h;rw [dI]at h ⊢;split at h
  · rename_i F;rw [agQb F];split at h;· simp at h
    · rename_i h1;rw [ae h1];split at h;· simp at h
      · rename_i h2;rw [ae h2];have G:=zY r a B;obtain⟨I,M,J,K⟩:=D _ _ _ _ _ G.2.1 h;refine⟨I,by omega,by rw [J,aDQb];simp;omega,fun L=>K fun x A=>?_⟩;rcases iZ.1 A with A | A;· exact L x A
        · rw [lT.1 A];omega
  · simp at h
theorem Dk(d:Nat)(b:List UInt8)(h:(dX d b).2.2=0):(dX d b).2.1<=b.length/\0<(dX d b).2.1/\(dX d b).1.length<=d/\∀ x∈(dX d b).1,x<d:=by
 unfold dX at *;split at h
 · rename_i o;rw [agQb o];have A:=lH _ _ o;split at h;· rename_i h1;rw [agQb h1];exact⟨A.2.1,A.1,anQb _,fun x q=>by cases q⟩
   · rename_i h1;rw [ae h1];split at h;· simp at h
     · rename_i h2;rw [ae h2];split at h
       · rename_i h3;rw [agQb h3];split at h
         · rename_i h4;rw [agQb h4];have z:=Dm _ _ _ _ _ _ _ _ _ (by omega) h3;have B:(b.drop (ay d b).2.1).length=b.length - (ay d b).2.1:=aU ..;refine⟨?_,?_,?_,?_⟩;· show _+(_+7) / 8<=_;rw [B]at z;omega
           · show 0<_+(_+7) / 8;omega
           · show List.length _<=_;rw [z.2.2.1];simp;omega
           · exact z.2.2.2 fun x q=>by cases q
         · simp at h
       · rename_i h3;exact absurd h h3
 · rename_i o;exact absurd h o
structure aW where
 lit:UInt8
 len:Nat
 dist:Nat
 deriving DecidableEq
instance:Inhabited aW:=⟨⟨0,0,0⟩⟩
def ft(b:List UInt8):Nat->Nat->Nat->Nat
 | _,_,0=>0
 | f,a,n+1=>if a<b.length/\b[f]?=b[a]? then ft b (f+1) (a+1) n+1 else 0
def ju(b:List UInt8)(f a:Nat):Nat:=ft b f a 257
theorem yT(b:List UInt8):∀ n f a,ft b f a n<=n:=by
 intro n
 induction n with
 | zero=>intro f a;exact amQb _
 | succ n d=>intro f a;have:=d (f+1) (a+1);rw [ft];split <;> omega
theorem Es(b:List UInt8):∀ n f a,a<=b.length->a+ft b f a n<=b.length:=by
 intro n
 induction n with
 | zero=>intro f a h;exact h
 | succ n d=>
  intro f a h;rw [ft];split;· rename_i h1;have:=d (f+1) (a+1) (by omega);omega
  · exact h
theorem yU(b:List UInt8):∀ n f a,a<=b.length->∀ i,i<ft b f a n->b[f+i]?=b[a+i]?:=by
 intro n
 induction n with
 | zero=>intro f a _ i d;simp [ft]at d
 | succ n o=>
  intro f a h i d;rw [ft]at d;split at d
  · rename_i h1
    cases i with
    | zero=>simpa using h1.2
    | succ i=>have:=o (f+1) (a+1) (by omega) i (by omega);rw [show f+(i+1)=f+1+i by omega,show a+(i+1)=a+1+i by omega];exact this
  · omega
def eG(b:List UInt8)(p:Nat):List UInt8:=(b.drop p).take 3
theorem yS(b:List UInt8)(n f a:Nat)(B:3<=n)(D:f<a):3<=ft b f a n↔(a+3<=b.length/\eG b f=eG b a):=by
 have e:∀ p,p+3<=b.length->eG b p=[b.getD p 0,b.getD (p+1) 0,b.getD (p+2) 0]:=by intro p o;unfold eG;rw [ip (by omega),iY,ip (by omega),iY,ip (by omega),iY,ld];simp [cD,bE (show p<b.length by omega),bE (show p+1<b.length by omega),bE (show p+2<b.length by omega)]
 constructor
 · intro h;by_cases d:a<=b.length;· have h1:=Es b n f a d;refine⟨by omega,?_⟩;rw [e f (by omega),e a (by omega)];have q:=yU b n f a d 0 (by omega);have z:=yU b n f a d 1 (by omega);have A:=yU b n f a d 2 (by omega);simp only [et]at q;simp only [cD,q,z,A]
   · obtain⟨m,rfl⟩:∃ m,n=m+1:=⟨n - 1,by omega⟩;rw [ft,ae (by omega)]at h;omega
 · rintro⟨h1,h2⟩;rw [e f (by omega),e a (by omega)]at h2;simp only [vF,nUQb]at h2;have g:∀ p,p<b.length->b[p]?=some (b.getD p 0):=fun p o=>(by rw [cD,bE o];rfl);obtain⟨m,rfl⟩:∃ m,n=m+3:=⟨n - 3,by omega⟩;rw [ft, agQb ⟨by omega, by rw [g _ (by omega), g _ (by omega), h2.1]⟩, ft, agQb ⟨by omega, by rw [g _ (by omega), g _ (by omega), h2.2.1]⟩, ft, agQb ⟨by omega, by
    rw [show f + 1 + 1 = f + 2 by omega, show a + 1 + 1 = a + 2 by omega, g _ (by omega), g _ (by omega), h2.2.2]⟩]
   omega
def n4(b:List UInt8)(d:Nat)(s:Nat × Nat)(h:Nat):Nat × Nat:=if s.1<ju b (d - h) d then(ju b (d - h) d,h)else s
def dG(b:List UInt8)(h:Nat):Nat->Nat × Nat
 | 0=>(0,0)
 | d+1=>n4 b h (dG b h d) (d+1)
def gm(b:List UInt8)(d:Nat):Nat × Nat:=dG b d (min 4095 d)
theorem uT(b:List UInt8)(a:Nat)(o:a<=b.length):∀ d,(dG b a d).1<=257/\a+(dG b a d).1<=b.length/\(dG b a d).2<=d/\(0<(dG b a d).1->0<(dG b a d).2):=by
 intro d
 induction d with
 | zero=>simp [dG,o]
 | succ d h=>
  rw [dG,n4];split;· refine⟨yT _ _ _ _,Es _ _ _ _ o,amQb _,fun _=>by simp⟩
  · exact⟨h.1,h.2.1,by omega,h.2.2.2⟩
theorem Qi(b:List UInt8)(a:Nat)(d e:Nat)(h:d<=e)(o:(dG b a d).1=257):dG b a e=dG b a d:=by
 induction e with
 | zero=>rw [Nat.le_zero.1 h]
 | succ e q=>
  by_cases h1:d=e+1;· rw [h1]
  · rw [dG,n4,q (by omega),ae];rw [o];have:=yT b 257 (a - (e+1)) a;unfold ju;omega
def jr(s t:Nat × Nat):Prop:=(3<=s.1->t=s)/\(s.1<3->t=(0,0))
theorem DF(b:List UInt8)(a d e:Nat)(t:Nat × Nat)(q:d<=e)(h:jr (dG b a d) t)(o:∀ k,d<k->k<=e->¬3<=ju b (a - k) a):jr (dG b a e) t:=by
 induction e with
 | zero=>rw [Nat.le_zero.1 q]at h;exact h
 | succ e z=>
  by_cases h1:d=e+1;· rw [<- h1];exact h
  · have h2:=z (by omega) (fun k a b=>o k a (by omega));have h3:=o (e+1) (by omega) (amQb _);rw [dG,n4];split;· rename_i h4;exact⟨fun h5=>absurd h5 h3,fun _=>h2.2 (by omega)⟩
    · exact h2
theorem Pw(b:List UInt8)(a d:Nat)(t:Nat × Nat)(h:jr (dG b a d) t)(o:3<=ju b (a - (d+1)) a):jr (dG b a (d+1)) (n4 b a t (d+1)):=by
 rw [dG];unfold n4;by_cases h3:3<=(dG b a d).1
 · rw [h.1 h3];split;· exact⟨fun _=>rfl,fun h=>by simp at h;omega⟩
   · exact⟨fun _=>rfl,fun h=>by omega⟩
 · rw [h.2 (by omega),agQb (by omega),agQb (by simp;omega)];exact⟨fun _=>rfl,fun h=>by simp at h;omega⟩
def ie(b:List UInt8)(key:List UInt8):Nat->Option Nat
 | 0=>none
 | n+1=>if n+3<=b.length/\eG b n=key then some n else ie b key n
theorem sf(b key:List UInt8)(n p:Nat)(h:ie b key n=some p):p<n/\p+3<=b.length/\eG b p=key/\∀ q,p<q->q<n->q+3<=b.length->eG b q≠key:=by
 induction n with
 | zero=>cases h
 | succ n o=>
  rw [ie]at h;split at h;· rename_i h1;cases h;exact⟨by omega,h1.1,h1.2,fun q a b=>by omega⟩
  · rename_i h1;obtain⟨D,z,A,B⟩:=o h;refine⟨by omega,z,A,fun q a c d=>?_⟩;by_cases e:q=n;· subst e;exact fun k=>h1 ⟨d,k⟩
    · exact B q a (by omega) d
theorem C7(b key:List UInt8)(n:Nat)(h:ie b key n=none):∀ q,q<n->q+3<=b.length->eG b q≠key:=by
 induction n with
 | zero=>intro q z;omega
 | succ n o=>
  rw [ie]at h;split at h;· cases h
  · rename_i h1;intro q a d;by_cases e:q=n;· subst e;exact fun k=>h1 ⟨d,k⟩
    · exact o h q (by omega) d
def kL(b:List UInt8)(p:Nat):Option Nat:=if p+3<=b.length then ie b (eG b p) p else none
theorem Px(b:List UInt8)(a d p:Nat)(t:Nat × Nat)(q:a+3<=b.length)(F:d<=a)(z:ie b (eG b a) (a - d)=some p)(h:jr (dG b a d) t) :
  jr (dG b a (a - p)) (n4 b a t (a - p))/\p<a - d/\kL b p=ie b (eG b a) (a - (a - p)):=by
 obtain⟨A,B,o,D⟩:=sf _ _ _ _ z;have h1 := DF b a d (a - p - 1) t (by omega) h (fun k G I k3 => by
  have := (yS b 257 (a - k) a (by omega) (by omega)).1 k3
  exact D (a - k) (by omega) (by omega) (by omega) this.2)
 have h2:=Pw b a (a - p - 1) t h1 ((yS b 257 _ a (by omega) (by omega)).2 ⟨q,by rw [show a - (a - p - 1+1)=p by omega];exact o⟩);rw [show a - p - 1+1=a - p by omega]at h2;refine⟨h2,A,?_⟩;unfold kL;rw [agQb B,o,show a - (a - p)=p by omega]
theorem uK(b:List UInt8)(a d:Nat)(t:Nat × Nat)(z:d<=min 4095 a)(h:jr (dG b a d) t)
  (o:(dG b a d).1=257\/∀ q,q<a - d->a - q<=4095->eG b q≠eG b a):jr (gm b a) t:=by
 unfold gm;rcases o with o | o;· rw [Qi b a d _ z o];exact h
 · exact DF b a d _ t z h fun k A B k3=>o (a - k) (by omega) (by omega) ((yS b 257 (a - k) a (by omega) (by omega)).1 k3).2
theorem Qh(b:List UInt8)(a:Nat)(d:b.length<a+3)(h:a<=b.length):(gm b a).1<3:=by
 have:=(uT b a h (min 4095 a)).2.1;unfold gm;omega
def iB(b:List UInt8)(a:Nat):List aW:=
 if h : a < b.length then
  if h3:3<=(gm b a).1 then⟨0,(gm b a).1,(gm b a).2⟩::iB b (a+(gm b a).1)
  else⟨b[a],0,0⟩::iB b (a+1)
 else []
termination_by b.length - a
def jL(b:List UInt8):List aW:=iB b 0
theorem yl(b:List UInt8)(a:Nat)(h:b.length<=a):iB b a=[]:=by rw [iB,dif_neg (by omega)]
theorem yj(b:List UInt8)(a:Nat)(h:a<b.length)(h3:3<=(gm b a).1):iB b a=⟨0,(gm b a).1,(gm b a).2⟩::iB b (a+(gm b a).1):=by rw [iB,dif_pos h,dif_pos h3]
theorem yk(b:List UInt8)(a:Nat)(h:a<b.length)(h3:¬3<=(gm b a).1):iB b a=⟨b[a],0,0⟩::iB b (a+1):=by rw [iB,dif_pos h,dif_neg h3]
def ez(t:aW):Bool:=if t.len=0 then decide (t.dist=0)else decide (t.lit=0) && decide (3<=t.len) && decide (t.len<=257) && decide (1<=t.dist) && decide (t.dist<=4095)
theorem NC(b:List UInt8)(a:Nat):∀ t∈iB b a,ez t=true:=by
 induction a using iB.induct (b:=b)with
 | case1 a h h3 o=>
  rw [yj b a h h3];intro t d;rcases jW.1 d with rfl | d;· have:=uT b a (by omega) (min 4095 a);unfold gm at *;unfold ez;rw [ae (by simp;omega)];simp only [iH,fx];refine⟨⟨⟨⟨trivial,?_⟩,?_⟩,?_⟩,?_⟩ <;> omega
  · exact o t d
 | case2 a h h3 o=>
  rw [yk b a h h3];intro t d;rcases jW.1 d with rfl | d;· simp [ez]
  · exact o t d
 | case3 a h=>rw [yl b a (by omega)];intro t d;cases d
theorem ND(b:List UInt8)(a:Nat):(iB b a).length<=b.length - a:=by
 induction a using iB.induct (b:=b)with
 | case1 a h h3 d=>rw [yj b a h h3,cdQb];omega
 | case2 a h h3 d=>rw [yk b a h h3,cdQb];omega
 | case3 a h=>rw [yl b a (by omega)];simp
def gK(v:Nat):Nat:=Nat.log2 v
def jE(v:Nat):Nat:=v - 2 ^ Nat.log2 v
theorem y8(v:Nat)(h:1<=v):2 ^ gK v<=v:=Nat.log2_self_le (by omega)
theorem Pl(v:Nat):v<2 ^ (gK v+1):=Nat.lt_log2_self
theorem AZ(v:Nat)(h:1<=v):jE v<2 ^ gK v:=by
 have h1:=y8 v h;have h2:=Pl v;unfold jE gK at *;rw [kG]at h2;omega
theorem uJ(v k:Nat)(h:1<=v)(h2:v<2 ^ k):gK v<k:=by
 have h1:=y8 v h;exact(Nat.pow_lt_pow_iff_right (by omega)).1 (Nat.lt_of_le_of_lt h1 h2)
structure E9 where
 sym:Nat
 len:Nat
 dist:Nat
 far:Nat
 deriving DecidableEq
def aV(t:aW):E9:=if t.len=0 then⟨t.lit.toNat,0,0,0⟩else⟨257+gK (t.len - 2),jE (t.len - 2),gK t.dist,jE t.dist⟩
theorem qL(t:aW)(h:ez t=true)(d:t.len≠0):t.lit=0/\3<=t.len/\t.len<=257/\1<=t.dist/\t.dist<=4095:=by
 unfold ez at h;rw [ae d]at h;simp only [iH,fx]at h;exact⟨h.1.1.1.1,h.1.1.1.2,h.1.1.2,h.1.2,h.2⟩
theorem xg(t:aW)(h:ez t=true):(aV t).sym<265/\(aV t).dist<12/\(aV t).len<256/\(aV t).far<4096/\((aV t).sym<256↔t.len=0)/\(t.len≠0->257<=(aV t).sym):=by
 unfold aV;by_cases d:t.len=0;· rw [agQb d];have:=t.lit.toNat_lt;exact⟨by show t.lit.toNat<265;omega,by show 0<12;omega,by show 0<256;omega,by show 0<4096;omega,by show t.lit.toNat<256↔_;omega,fun h=>absurd d h⟩
 · rw [ae d];obtain⟨_,h1,h2,h3,h4⟩:=qL t h d;have o:=uJ (t.len - 2) 8 (by omega) (by have:(2:Nat) ^ 8=256:=rfl;omega);have c2:=uJ t.dist 12 h3 (by have:(2:Nat) ^ 12=4096:=rfl;omega);have q:jE (t.len - 2)<=t.len - 2:=Nat.sub_le _ _;have z:jE t.dist<=t.dist:=Nat.sub_le _ _;exact⟨by show 257+gK (t.len - 2)<265;omega,c2,by show jE _<256;omega,by show jE _<4096;omega,by show 257+gK (t.len - 2)<256↔_;omega,fun _=>by show 257<=257+_;omega⟩
def fg(l:List aW)(k:Nat):Nat:=l.countP fun t=>(aV t).sym == k
def iU(l:List aW)(k:Nat):Nat:=l.countP fun t=>decide (t.len≠0) && ((aV t).dist == k)
theorem Hs(l:List aW)(t:aW)(k:Nat):fg (l++[t]) k=fg l k+if(aV t).sym=k then 1 else 0:=by simp [fg,List.countP_append,tz]
theorem NO(l:List aW)(t:aW)(k:Nat):iU (l++[t]) k=iU l k+if t.len≠0/\(aV t).dist=k then 1 else 0:=by simp [iU,List.countP_append,tz]
theorem wj(l:List aW)(k:Nat):fg l k<=l.length:=zp
theorem Dd(l:List aW)(k:Nat):iU l k<=l.length:=zp
def iw(l:List aW):List Nat:=(List.range 265).map fun k=>fg l k+if k=256 then 1 else 0
def jo(l:List aW):List Nat:=(List.range 12).map (iU l)
def lW(a:List UInt8):List UInt8:=if cI a then fz a else []
def fW(a:List UInt8)(s:Nat):List UInt8:=if cI a then rm a s else []
def lp(a b:List UInt8)(t:aW):List UInt8:=
 fW a (aV t).sym++if t.len=0 then []else cO (aV t).len ((aV t).sym - 257)++(fW b (aV t).dist++cO (aV t).far (aV t).dist)
def jd(a b:List UInt8)(l:List aW):List UInt8:=l.flatMap (lp a b)
def sS(a b:List UInt8)(l:List aW):List UInt8:=((lW a++lW b)++jd a b l)++fW a 256
theorem Gy(a b:List UInt8)(l:List aW)(t:aW):jd a b (l++[t])=jd a b l++lp a b t:=by simp [jd]
theorem zJ(a:List UInt8):(lW a).length<=10*a.length:=by
 unfold lW;split;· exact zM a.length a (amQb _)
 · simp
theorem G7(a b:List UInt8)(t:aW)(d:ez t=true)(o:∀ c∈a,c.toNat<=15)(q:∀ c∈b,c.toNat<=15):(lp a b t).length<=50:=by
 have pl:∀ (x:List UInt8) s,(∀ c∈x,c.toNat<=15)->(fW x s).length<=15:=fun x s h=>by
  unfold fW;split;· exact Ej x s h
  · simp
 have h1:=pl a (aV t).sym o;have h2:=pl b (aV t).dist q;obtain⟨z,A,B,D,F,G⟩:=xg t d;unfold lp;split;· simp;omega
 · simp only [aDQb,nM];omega
theorem Gz(a b:List UInt8)(o:∀ c∈a,c.toNat<=15)(q:∀ c∈b,c.toNat<=15)(l:List aW)(d:∀ t∈l,ez t=true):(jd a b l).length<=50*l.length:=by
 induction l with
 | nil=>simp [jd]
 | cons t l z=>have h1:=G7 a b t (d t (by simp)) o q;have h2:=z (fun t h=>d t (by simp [h]));unfold jd at *;rw [List.flatMap_cons,aDQb,cdQb];omega
def cC(x:Nat):Nat:=if x % 2=1 then(x / 2) ^^^ 3988292384 else x / 2
def rk(x c:Nat):Nat:=cC (cC (cC (cC (cC (cC (cC (cC (x ^^^ c))))))))
def dk(x:Nat)(l:List UInt8):Nat:=l.foldl (fun x c=>rk x c.toNat) x
def fU(l:List UInt8):Nat:=4294967295 - dk 4294967295 l
def it(i:Nat):Nat:=cC (cC (cC (cC i)))
theorem uR(a b:Nat):cC (a ^^^ b)=cC a ^^^ cC b:=by
 have h:=yG a b 0;simp only [Nat.pow_zero,Nat.div_one]at h;unfold cC;rw [Nat.xor_div_two];by_cases h1:a % 2=1 <;> by_cases h2:b % 2=1;· rw [ae (by rw [h];simp [h1,h2]),agQb h1,agQb h2,tH,Nat.xor_self,th]
 · rw [agQb (by rw [h];simp [h1,h2]),agQb h1,ae h2,no,no,Nat.xor_comm (b / 2)]
 · rw [agQb (by rw [h];simp [h1,h2]),ae h1,agQb h2,no]
 · rw [ae (by rw [h];simp [h1,h2]),ae h1,ae h2]
theorem kV(x:Nat)(h:x<4294967296):cC x<4294967296:=by
 unfold cC;have h1:x / 2<2 ^ 32:=by omega
 split;· exact jz h1 (by decide)
 · omega
theorem I9(x:Nat):x=(x / 16*16) ^^^ (x % 16):=by
 apply Nat.eq_of_testBit_eq;intro j;rw [Nat.testBit_xor,show(16:Nat)=2 ^ 4 from rfl,Nat.testBit_mul_two_pow,Nat.testBit_mod_two_pow,Nat.testBit_div_two_pow];by_cases h:4<=j;· rw [show j - 4+4=j by omega];simp [h];rw [aX (by omega:¬j<4)];simp
 · simp [h];omega
theorem An(x:Nat):cC (cC (cC (cC x)))=(x / 16) ^^^ it (x % 16):=by
 have e:cC (cC (cC (cC x)))=cC (cC (cC (cC ((x / 16*16) ^^^ (x % 16))))):=by rw [<- I9]
 rw [e,uR,uR,uR,uR];have h:∀ y,cC (2*y)=y:=fun y=>by unfold cC;rw [ae (by omega)];omega
 rw [show x / 16*16=2*(2*(2*(2*(x / 16)))) by omega,h,h,h,h];rfl
theorem PF(x c:Nat):rk x c=((x ^^^ c) / 16 ^^^ it ((x ^^^ c) % 16)) / 16 ^^^ it (((x ^^^ c) / 16 ^^^ it ((x ^^^ c) % 16)) % 16):=by
  unfold rk;rw [An (x ^^^ c),An]
theorem Ao(i:Nat)(h:i<16):it i<4294967296:=kV _ (kV _ (kV _ (kV _ (by omega))))
theorem PL(x c:Nat)(d:x<4294967296)(h:c<256):rk x c<4294967296:=by
 have:x ^^^ c<2 ^ 32:=jz d (by omega);exact kV _ (kV _ (kV _ (kV _ (kV _ (kV _ (kV _ (kV _ this)))))))
theorem yr(l:List UInt8):∀ x,x<4294967296->dk x l<4294967296:=by
 induction l with
 | nil=>intro x h;exact h
 | cons c l d=>intro x h;exact d _ (PL x _ h c.toNat_lt)
theorem Dw(x:Nat)(l:List UInt8)(k:Nat)(h:k<l.length):dk x (l.take (k+1))=rk (dk x (l.take k)) (l[k]).toNat:=by
 unfold dk;rw [gy h,List.foldl_append];rfl
theorem OW(x:Nat)(a b:List UInt8):dk x (a++b)=dk (dk x a) b:=by unfold dk;rw [List.foldl_append]
def fV(l:List UInt8):List UInt8:=l++[UInt8.ofNat (fU l % 256),UInt8.ofNat (fU l / 256 % 256),UInt8.ofNat (fU l / 65536 % 256),UInt8.ofNat (fU l / 16777216 % 256)]
theorem wl(l:List UInt8):fU l<4294967296:=by unfold fU;omega
def bI(x:Nat):List UInt8:=if h:x<128 then [UInt8.ofNat x]else UInt8.ofNat (128+x % 128)::bI (x / 128)
termination_by x
theorem xD(x:Nat)(h:x<128):bI x=[UInt8.ofNat x]:=by rw [bI,dif_pos h]
theorem BS(x:Nat)(h:¬x<128):bI x=UInt8.ofNat (128+x % 128)::bI (x / 128):=by rw [bI,dif_neg h]
theorem Lq(k:Nat):∀ x,x<128 ^ (k+1)->(bI x).length<=k+1:=by
 induction k with
 | zero=>intro x h;rw [xD x (by omega)];simp
 | succ k d=>
  intro x h;by_cases h1:x<128;· rw [xD x h1];simp
  · rw [BS x h1];have:=d (x / 128) (by rw [kG]at h;exact Nat.div_lt_of_lt_mul (by rw [gw];exact h));simp;omega
theorem jI(x:Nat)(h:x<18446744073709551616):(bI x).length<=10:=
 Lq 9 x (ntQb h (by decide))
def lw(s:List UInt8):List UInt8:=bI s.length++s
def mw:Nat->Nat->List UInt8
 | 0,_=>[]
 | n+1,x=>UInt8.ofNat (x % 256)::mw n (x / 256)
def Fl(d:Nat):Nat:=if d<9223372036854775808 then 2*d else 2*(18446744073709551615 - d)+1
theorem cZ{α:Type}(l:List α)(i:Nat)(d:α)(h:i<l.length):l.getD i d=l[i]:=by
 rw [cD,bE h];rfl
def gQ(d:List UInt8)(c:Nat)(b:List UInt8):List UInt8:=d.zipWith (fun x y=>UInt8.ofNat (x.toNat ^^^ aJ c y.toNat)) b
def jf(M:List UInt8)(C i:Nat)(d:List (List UInt8))(L:Nat):Nat->List UInt8
 | 0=>List.replicate L 0
 | j+1=>gQ (jf M C i d L j) (M.getD (i*C+j) 0).toNat (d.getD j [])
def lq(M:List UInt8)(C R:Nat)(d:List (List UInt8))(L:Nat):List (List UInt8):=(List.range R).map fun i=>jf M C i d L C
theorem wF(M:List UInt8)(C i:Nat)(d:List (List UInt8))(L j:Nat)(h:∀ p∈d,p.length=L)(q:j<=d.length):(jf M C i d L j).length=L:=by
 induction j with
 | zero=>simp [jf]
 | succ j o=>have h1:=o (by omega);have h2:(d.getD j []).length=L:=(by rw [cD,bE (by omega)];exact h _ (bX _));rw [jf,gQ,List.length_zipWith,h1,h2,Nat.min_self]
theorem tO(M:List UInt8)(C R:Nat)(d:List (List UInt8))(L:Nat):(lq M C R d L).length=R:=by simp [lq]
theorem QE(d b:List UInt8)(c:Nat)(h:d.length=b.length):(gQ d c b).length=d.length:=by unfold gQ;rw [List.length_zipWith];omega
theorem Et(l b:List UInt8)(h:l.length=b.length):gQ l 0 b=l:=by
 apply lj;· simp [gQ,h]
 · intro i h1 h2;simp [gQ,BV]
theorem QG(l b:List UInt8)(c i:Nat)(h1:i<l.length)(h2:i<b.length)(h3:i<(gQ l c b).length):(gQ l c b)[i]=UInt8.ofNat (l[i].toNat ^^^ aJ c b[i].toNat):=by
 simp [gQ]
def P7(M:List UInt8)(C i:Nat)(d:List (List UInt8))(n:Nat):Nat->Nat
 | 0=>0
 | j+1=>P7 M C i d n j ^^^ aJ (M.getD (i*C+j) 0).toNat ((d.getD j []).getD n 0).toNat
theorem Af(M:List UInt8)(C R:Nat)(d:List (List UInt8))(L i:Nat)(o:i<R)(h:i<(lq M C R d L).length):(lq M C R d L)[i]=jf M C i d L C:=by
 simp [lq]
def OU(l:List UInt8)(d n:Nat):List UInt8:=(List.range n).map fun i=>l.getD (d+i) 0
def B4(l:List UInt8)(c a k:Nat):List (List UInt8):=(List.range k).map fun i=>OU l (a+i*c) c
def Bq(d:List (List UInt8)):List UInt8:=(d.map fV).flatten
def bF(l:List UInt8):Bool:=decide (4<=l.length) && decide (fV (l.take (l.length - 4))=l)
def aS(l:List UInt8):List UInt8:=if bF l then l.take (l.length - 4)else []
def bP(l:List UInt8):Nat:=if bF l then 0 else if l.length<4 then 1 else 5
theorem OT(l:List UInt8)(h:bF l=true):(aS l).length=l.length - 4:=by
 unfold aS;rw [agQb h,aG];omega
def bh(l:List UInt8):Nat × Nat:=
 if l.length<=4 then(0,1)else if l.take 4=[70,73,82,75]then(if 1<=(l.getD 4 0).toNat/\(l.getD 4 0).toNat<=3 then((l.getD 4 0).toNat,0)else(0,4))else(0,3)
def ik(l:List UInt8):Bool:=bF l && decide (bh l=(3,0))
def bj{α:Type}(f:α->Nat)(l:List α):Nat:=(l.map f).sum
theorem vN{α:Type}(f:α->Nat)(l:List α)(k:Nat)(h:k<l.length):bj f (l.take (k+1))=bj f (l.take k)+f l[k]:=by
 unfold bj;rw [gy h,gp,qf];simp
theorem zH{α:Type}(f:α->Nat)(m:Nat)(l:List α)(h:∀ x∈l,f x<=m):bj f l<=l.length*m:=by
 induction l with
 | nil=>simp [bj]
 | cons x l d=>have h1:=h x (List.mem_cons_self ..);have h2:=d (fun y o=>h y (zm _ o));unfold bj at *;rw [gTQb,lS,cdQb,bUQb];omega
theorem N5{α β:Type}(f:α->List β)(l:List α)(k:Nat)(h:k<l.length):((l.take (k+1)).map f).flatten=((l.take k).map f).flatten++f l[k]:=by
 rw [gy h,gp,rA];simp
theorem qW{α β:Type}(f:α->List β)(l:List α):((l.map f).flatten).length=bj (fun x=>(f x).length) l:=by
 induction l with
 | nil=>rfl
 | cons x l d=>unfold bj at *;simp [d]
theorem zE{α:Type}(f:α->Nat)(l:List α)(k:Nat):bj f (l.take k)<=bj f l:=by
 unfold bj;conv=>rhs;rw [<- j9Qb k l]
 rw [gp,qf];omega
theorem zF{α:Type}(f g:α->Nat)(l:List α)(h:∀ x∈l,f x<=g x):bj f l<=bj g l:=by
 induction l with
 | nil=>exact amQb _
 | cons x l d=>have h1:=h x (List.mem_cons_self ..);have h2:=d (fun y o=>h y (zm _ o));unfold bj at *;simp only [gTQb,lS];omega
def ko{α:Type}(S:Nat)(f:α->Nat):Nat->Nat->List α->List Nat
 | c,_,[]=>[c]
 | c,h,r::l=>if h+f r<=S then ko S f (c+1) (h+f r) l else c::ko S f 1 (f r) l
def jn{α:Type}(S:Nat)(f:α->Nat):List α->List Nat
 | []=>[]
 | r::l=>ko S f 1 (f r) l
theorem Nl{α:Type}(S:Nat)(f:α->Nat)(l:List α):∀ c h,(ko S f c h l).sum=c+l.length:=by
 induction l with
 | nil=>intro c h;simp [ko]
 | cons r l d=>
  intro c h;rw [ko];split;· rw [d,cdQb];omega
  · rw [lS,d,cdQb];omega
theorem CP{α:Type}(S:Nat)(f:α->Nat)(l:List α):(jn S f l).sum=l.length:=by
 cases l with
 | nil=>rfl
 | cons r l=>rw [jn,Nl,cdQb];omega
theorem Nm{α:Type}(S:Nat)(f:α->Nat)(l:List α):∀ c h,1<=c->∀ x∈ko S f c h l,1<=x:=by
 induction l with
 | nil=>intro c h o x d;simp [ko]at d;omega
 | cons r l q=>
  intro c h o x d;rw [ko]at d;split at d;· exact q _ _ (by omega) x d
  · rcases jW.1 d with rfl | d;· exact o
    · exact q _ _ (amQb _) x d
def O7(t d:Nat):Nat:=(t+18446744073709551616 - d) % 18446744073709551616
def GR:Nat->List Nat->List UInt8
 | _,[]=>[]
 | d,t::l=>bI (Fl (O7 t d))++GR t l
def xO:UInt8->Nat->List UInt8->List UInt8
 | x,c,[]=>x::bI c
 | x,c,y::l=>if y=x then xO x (c+1) l else(x::bI c)++xO y 1 l
def Td:List UInt8->List UInt8
 | []=>[]
 | x::l=>xO x 1 l
def SY(l:List UInt8)(n:Nat):List UInt8:=l++(List.replicate n 0).drop l.length
def Bf(d:Nat):Nat->List Nat->Bool
 | _,[]=>true
 | h,x::l=>decide (h<=x) && decide (x<d) && Bf d (x+1) l
def Ob(w:Nat)(l:List Nat):List UInt8:=(l.map fun x=>cO (x % 2 ^ w) w).flatten
def Dl(w:Nat):Nat->List Nat->List UInt8
 | _,[]=>[]
 | d,x::l=>Gf (x / 2 ^ w - d)++Dl w (x / 2 ^ w) l
def Oc(d:Nat)(l:List Nat):List UInt8:=
 bI l.length++if l=[]then []else ej (Ob (Nat.log2 (d / l.length)) l++Dl (Nat.log2 (d / l.length)) 0 l)
theorem LZ(q k:Nat)(h1:2 ^ k<=q)(h2:q<2 ^ (k+1)):Nat.log2 q=k:=(Nat.log2_eq_iff (by have:=mC k;omega)).2 ⟨h1,h2⟩
def bp(key:Nat->Nat)(a b:Nat):Prop:=key a<key b\/(key a=key b/\a<b)
theorem ki{key:Nat->Nat}{a b c:Nat}(h:bp key a b)(k:bp key b c):bp key a c:=by unfold bp at *;omega
theorem LQ{key:Nat->Nat}{a b:Nat}(h:bp key a b):¬bp key b a:=by unfold bp at *;omega
abbrev nh(key:Nat->Nat)(l:List Nat):Prop:=l.Pairwise (bp key)
theorem I7{key:Nat->Nat}{l m:List Nat}(d:l.Perm m)(h1:nh key l)(h2:nh key m):l=m:=
 d.eq_of_pairwise (fun _ _ _ _ h k=>absurd k (LQ h)) h1 h2
def mz(f:Nat->Bool):Nat->Nat
 | 0=>0
 | n+1=>if f n then mz f n else n+1
theorem On(f:Nat->Bool)(n:Nat):mz f n<=n:=by
 induction n with
 | zero=>exact amQb _
 | succ n d=>rw [mz];split <;> omega
theorem Om(f:Nat->Bool)(n:Nat):∀ i,mz f n<=i->i<n->f i=true:=by
 induction n with
 | zero=>intro i _ h;omega
 | succ n d=>
  intro i h1 h2;rw [mz]at h1;split at h1
  · by_cases e:i=n;· subst e;assumption
    · exact d i h1 (by omega)
  · omega
theorem Ol(f:Nat->Bool)(n:Nat)(h:mz f n≠0):f (mz f n - 1)=false:=by
 induction n with
 | zero=>exact absurd rfl h
 | succ n o=>
  rw [mz]at h ⊢;split;· rename_i d;rw [agQb d]at h;exact o h
  · rename_i d;simpa using d
def oz(key:Nat->Nat)(l:List Nat)(x:Nat):List Nat:=
 l.take (mz (fun i=>decide (key x<key (l.getD i 0))) l.length)++x::l.drop (mz (fun i=>decide (key x<key (l.getD i 0))) l.length)
theorem JQ(key:Nat->Nat)(l:List Nat)(x:Nat):(oz key l x).Perm (x::l):=by
 unfold oz;refine List.perm_middle.trans ?_;rw [j9Qb]
theorem JP(key:Nat->Nat)(l:List Nat)(x:Nat)(h:nh key l)(F:∀ y∈l,y<x):nh key (oz key l x):=by
 unfold oz;have K:=On (fun i=>decide (key x<key (l.getD i 0))) l.length;have G:=Om (fun i=>decide (key x<key (l.getD i 0))) l.length;have I:=Ol (fun i=>decide (key x<key (l.getD i 0))) l.length;generalize mz (fun i=>decide (key x<key (l.getD i 0))) l.length=d at *;have h1:∀ y∈l.take d,bp key y x:=by
  intro y o;obtain⟨i,q,rfl⟩:=List.getElem_of_mem o;have z:i<d:=(by have:=q;rw [aG]at this;omega);have B:i<l.length:=(by omega);rw [oV];have J:=I (by omega);simp only [vj,Nat.not_lt,cD,bE (show d - 1<l.length by omega),Option.getD_some]at J;have L:key l[i]<=key (l[d - 1]'(by omega)):=by
   by_cases e:i=d - 1;· subst e;exact amQb _
   · have:=vA.1 h i (d - 1) B (by omega) (by omega);unfold bp at this;omega
  have:=F l[i] (bX B);unfold bp;omega
 have h2:∀ y∈l.drop d,bp key x y:=by intro y o;obtain⟨i,q,rfl⟩:=List.getElem_of_mem o;have z:d+i<l.length:=(by have:=q;rw [aU]at this;omega);rw [vB];have:=G (d+i) (by omega) z;simp only [fx,cD,bE z,Option.getD_some]at this;exact .inl this
 refine List.pairwise_append.2 ⟨h.sublist (List.take_sublist _ _),qh.2 ⟨h2,h.sublist (List.drop_sublist _ _)⟩,fun a D b A=>?_⟩;rcases jW.1 A with rfl | A;· exact h1 a D
 · exact ki (h1 a D) (h2 b A)
def rI(key:Nat->Nat)(l:List Nat):List Nat:=l.foldl (oz key) []
theorem zX(key:Nat->Nat):∀ (l d:List Nat),nh key d->(∀ y∈d,∀ x∈l,y<x)->l.Pairwise (·<·)->nh key (l.foldl (oz key) d)/\(l.foldl (oz key) d).Perm (d++l):=by
 intro l
 induction l with
 | nil=>intro d o _ _;exact⟨o,by simp⟩
 | cons x l F=>
  intro d o q G;have A:=qh.1 G;have B:=JQ key d x;obtain ⟨h1, h2⟩ := F (oz key d x) (JP key d x o fun y h => q y h x (by simp)) (fun y h z D => by
   rcases jW.1 (B.mem_iff.1 h) with rfl | h;· exact A.1 z D
   · exact q y h z (by simp [D])) A.2
  refine⟨h1,h2.trans ?_⟩;exact(B.append_right l).trans (List.perm_middle.symm)
theorem FX(key:Nat->Nat)(l:List Nat)(d:l.Pairwise (·<·)):nh key (rI key l):=(zX key l [] List.Pairwise.nil (by simp) d).1
theorem tK(key:Nat->Nat)(l:List Nat)(d:l.Pairwise (·<·)):(rI key l).Perm l:=by
 have h:=(zX key l [] List.Pairwise.nil (by simp) d).2;rw [kI]at h;exact h
theorem FY(key:Nat->Nat)(l m:List Nat)(d:l.Pairwise (·<·))(h:m.Perm l)(o:nh key m):m=rI key l:=
 I7 (h.trans (tK key l d).symm) o (FX key l d)
def fE(f:Nat->Nat)(a b:Nat):List Nat:=(List.range (b - a)).map fun i=>f (a+i)
theorem II(f:Nat->Nat)(a b:Nat):(fE f a b).length=b - a:=by simp [fE]
theorem qB(f:Nat->Nat)(a m b:Nat)(h1:a<=m)(h2:m<=b):fE f a b=fE f a m++fE f m b:=by
 unfold fE;rw [show b - a=(m - a)+(b - m) by omega,List.range_add,gp,nZQb];congr 1;refine jA fun i _=>?_;show f (a+(m - a+i))=f (m+i);congr 1;omega
theorem AT(f g:Nat->Nat)(a b:Nat)(h:∀ p,a<=p->p<b->f p=g p):fE f a b=fE g a b:=by
 unfold fE;refine jA fun i d=>?_;have:=eD.1 d;exact h _ (by omega) (by omega)
theorem AS(f g:Nat->Nat)(a b c d:Nat)(o:b - a=d - c)(h:∀ i,i<b - a->f (a+i)=g (c+i)):fE f a b=fE g c d:=by
 unfold fE;rw [<- o];exact jA fun i q=>h i (eD.1 q)
theorem Ca(f:Nat->Nat)(a b x:Nat):x∈fE f a b↔∃ p,a<=p/\p<b/\f p=x:=by
 unfold fE;rw [g6Qb];constructor;· rintro⟨i,d,rfl⟩;have:=eD.1 d;exact⟨a+i,by omega,by omega,rfl⟩
 · rintro⟨p,h1,h2,rfl⟩;exact⟨p - a,eD.2 (by omega),by congr 1;omega⟩
theorem AU(f:Nat->Nat)(a b i:Nat)(h:i<(fE f a b).length):(fE f a b)[i]=f (a+i):=by simp [fE]
def cw(f f':Nat->Nat)(a b:Nat):Prop:=(∀ p,p<a\/b<=p->f' p=f p)/\(fE f' a b).Perm (fE f a b)
theorem cw.refl(f:Nat->Nat)(a b:Nat):cw f f a b:=⟨fun _ _=>rfl,List.Perm.refl _⟩
theorem cw.trans{f g h:Nat->Nat}{a b:Nat}(h1:cw f g a b)(h2:cw g h a b):cw f h a b:=⟨fun p d=>(h2.1 p d).trans (h1.1 p d),h2.2.trans h1.2⟩
theorem cw.congr{f g d:Nat->Nat}{a b:Nat}(h1:cw f g a b)(h2:∀ p,d p=g p):cw f d a b:=by
 have:d=g:=funext h2;rw [this];exact h1
theorem cw.widen{f f':Nat->Nat}{a b o d:Nat}(h:cw f f' a b)(h1:o<=a)(h2:a<=b)(h3:b<=d):cw f f' o d:=by
 refine⟨fun p q=>h.1 p (by omega),?_⟩;rw [qB f' o a d h1 (by omega),qB f' a b d h2 h3,qB f o a d h1 (by omega),qB f a b d h2 h3];rw [AT f' f o a (fun p _ q=>h.1 p (by omega)),AT f' f b d (fun p q _=>h.1 p (by omega))];exact(List.Perm.refl _).append (h.2.append (List.Perm.refl _))
theorem cw.mem{f f':Nat->Nat}{a b:Nat}(h:cw f f' a b)(p:Nat)(h1:a<=p)(h2:p<b):∃ q,a<=q/\q<b/\f' p=f q:=by
 have:f' p∈fE f a b:=h.2.mem_iff.1 ((Ca f' a b _).2 ⟨p,h1,h2,rfl⟩);obtain⟨q,h3,h4,h5⟩:=(Ca f a b _).1 this;exact⟨q,h3,h4,h5.symm⟩
def aK(f:Nat->Nat)(a m b p:Nat):Nat:=if a<=p/\p<a+(b - m)then f (p+m - a)else if a+(b - m)<=p/\p<b then f (p - (b - m))else f p
theorem ue(f:Nat->Nat)(a m b:Nat)(h1:a<=m)(h2:m<=b):cw f (aK f a m b) a b:=by
 refine⟨fun p h=>by unfold aK;rw [ae (by omega),ae (by omega)],?_⟩;rw [qB (aK f a m b) a (a+(b - m)) b (by omega) (by omega),qB f a m b h1 h2];rw [AS (aK f a m b) f a (a+(b - m)) m b (by omega) (fun i d=>by unfold aK;rw [agQb (by omega)];congr 1;omega)];rw [AS (aK f a m b) f (a+(b - m)) b a m (by omega) (fun i d=>by unfold aK;rw [ae (by omega),agQb (by omega)];congr 1;omega)];exact List.perm_append_comm
def iL(f:Nat->Nat)(a b n p:Nat):Nat:=if a<=p/\p<a+n then f (p - a+b)else if b<=p/\p<b+n then f (p - b+a)else f p
theorem Ig(f:Nat->Nat)(a b p:Nat):iL f a b 0 p=f p:=by unfold iL;rw [ae (by omega),ae (by omega)]
def jD(f:Nat->Nat)(i j p:Nat):Nat:=if p=j then f i else if p=i then f j else f p
theorem Ih(f:Nat->Nat)(a b n p:Nat)(h:a+n<b):jD (iL f a b n) (a+n) (b+n) p=iL f a b (n+1) p:=by
 unfold jD iL;repeat' split
 all_goals first
  | rfl
  | (congr 1;omega)
  | (exfalso;omega)
theorem Ju(f:Nat->Nat)(m i p:Nat)(h:i<=m):iL f (m - i) m i p=aK f (m - i) m (m+i) p:=by
 unfold iL aK;repeat' split
 all_goals first
  | rfl
  | (congr 1;omega)
  | (exfalso;omega)
theorem Jt(f:Nat->Nat)(m i j p:Nat)(h:i<=m)(d:j<i):aK (iL f (m - i) m j) (m - (i - j)) m (m+j) p=aK f (m - i) m (m+j) p:=by
 unfold aK iL;repeat' split
 all_goals first
  | rfl
  | (congr 1;omega)
  | (exfalso;omega)
theorem Js(f:Nat->Nat)(m i j p:Nat)(h:i<=m)(d:i<j):aK (iL f (m - i) (m+j - i) i) (m - i) m (m+(j - i)) p=aK f (m - i) m (m+j) p:=by
 unfold aK iL;repeat' split
 all_goals first
  | rfl
  | (congr 1;omega)
  | (exfalso;omega)
theorem Jr(f:Nat->Nat)(a k p:Nat)(h:a<=k):jD (aK f a (a+1) (k+1)) k (k+1) p=aK f a (a+1) (k+2) p:=by
 unfold jD aK;repeat' split
 all_goals first
  | rfl
  | (congr 1;omega)
  | (exfalso;omega)
theorem Bd(f:Nat->Nat)(m k p:Nat)(h:k<=m)(d:0<k):jD (aK f k m (m+1)) k (k - 1) p=aK f (k - 1) m (m+1) p:=by
 unfold jD aK;repeat' split
 all_goals first
  | rfl
  | (congr 1;omega)
  | (exfalso;omega)
theorem wI(f:Nat->Nat)(a b p:Nat)(h:a<=b):aK f a a b p=f p:=by
 unfold aK;repeat' split
 all_goals first
  | rfl
  | (congr 1;omega)
  | (exfalso;omega)
theorem Be(f:Nat->Nat)(a m p:Nat):aK f a m m p=f p:=by
 unfold aK;repeat' split
 all_goals first
  | rfl
  | (congr 1;omega)
  | (exfalso;omega)
def bD(key:Nat->Nat)(f:Nat->Nat)(a b:Nat):Prop:=∀ i j,a<=i->i<j->j<b->bp key (f i) (f j)
theorem bD.list{key f:Nat->Nat}{a b:Nat}(h:bD key f a b):nh key (fE f a b):=by
 rw [nh,vA];intro i j d o q;rw [AU,AU];rw [II]at d o;exact h _ _ (by omega) (by omega) (by omega)
theorem bD.sub{key f:Nat->Nat}{a b c d:Nat}(h:bD key f a b)(h1:a<=c)(h2:d<=b):bD key f c d:=fun i j x y z=>h i j (by omega) y (by omega)
theorem bD.congr{key f g:Nat->Nat}{a b:Nat}(h:bD key f a b)(d:∀ p,a<=p->p<b->g p=f p):bD key g a b:=fun i j x y z=>by rw [d i x (by omega),d j (by omega) z];exact h i j x y z
def kR(g:Nat->Nat)(j i p:Nat):Nat:=aK g j i (i+1) p
theorem CK(key g:Nat->Nat)(a j i:Nat)(z:bD key g a i)(h1:a<=j)(h2:j<=i)(D:∀ p,a<=p->p<j->bp key (g p) (g i))(F:∀ p,j<=p->p<i->bp key (g i) (g p)):bD key (kR g j i) a (i+1):=by
 have A:∀ p,p<j->kR g j i p=g p:=fun p h=>by unfold kR aK;rw [ae (by omega),ae (by omega)]
 have B:kR g j i j=g i:=by unfold kR aK;rw [agQb (by omega)];congr 1;omega
 have o:∀ p,j<p->p<=i->kR g j i p=g (p - 1):=fun p h G=>by unfold kR aK;rw [ae (by omega),agQb (by omega)];congr 1;omega
 intro p q h I G;rcases nX p j with c | c | c
 · rw [A p c];rcases nX q j with d | d | d;· rw [A q d];exact z p q h I (by omega)
   · rw [d,B];exact D p h c
   · rw [o q d (by omega)];exact z p (q - 1) h (by omega) (by omega)
 · rw [c,B,o q (by omega) (by omega)];exact F _ (by omega) (by omega)
 · rw [o p c (by omega),o q (by omega) (by omega)];exact z _ _ (by omega) (by omega) (by omega)
def nj(f:Nat->Nat)(a m b:Nat):Prop:=∀ p q,a<=p->p<m->m<=q->q<b->f p<f q
theorem yV{key f:Nat->Nat}{a m b:Nat}(h:nj f a m b){p q:Nat}(h1:a<=p)(h2:p<m)(h3:m<=q)(h4:q<b):(key (f q)<key (f p)↔bp key (f q) (f p))/\(¬key (f q)<key (f p)↔bp key (f p) (f q)):=by
 have:=h p q h1 h2 h3 h4;unfold bp;omega
theorem LB(key f:Nat->Nat)(a b i:Nat)(o:bD key f (a+1) b)(h1:a+1<=i)(h2:i<=b)(D:∀ p,a+1<=p->p<i->bp key (f p) (f a))(F:∀ p,i<=p->p<b->bp key (f a) (f p)):bD key (aK f a (a+1) i) a b:=by
 have A:∀ p,a<=p->p<i - 1->aK f a (a+1) i p=f (p+1):=fun p z G=>by unfold aK;rw [agQb (by omega)];congr 1;omega
 have B:aK f a (a+1) i (i - 1)=f a:=by unfold aK;rw [ae (by omega),agQb (by omega)];congr 1;omega
 have h:∀ p,i<=p->aK f a (a+1) i p=f p:=fun p z=>by unfold aK;rw [ae (by omega),ae (by omega)]
 intro p q z I G;rcases nX p (i - 1)with c | c | c
 · rw [A p z c];rcases nX q (i - 1)with d | d | d;· rw [A q (by omega) d];exact o _ _ (by omega) (by omega) (by omega)
   · rw [d,B];exact D _ (by omega) (by omega)
   · rw [h q (by omega)];exact o _ _ (by omega) (by omega) (by omega)
 · rw [c,B,h q (by omega)];exact F _ (by omega) (by omega)
 · rw [h p (by omega),h q (by omega)];exact o _ _ (by omega) (by omega) (by omega)
theorem H6(key f g:Nat->Nat)(a mid b:Nat)(h1:bD key g a mid)(h2:bD key g mid b)(A:∀ p,a<=p->p<mid->∃ q,a<=q/\q<mid/\g p=f q)(B:∀ p,mid<=p->p<b->∃ q,mid<=q/\q<b/\g p=f q)(D:∀ p q,a<=p->p<mid->mid<=q->q<b->bp key (f p) (f q)):bD key g a b:=by
 intro p q h o z;by_cases c:q<mid;· exact h1 p q h o c
 · by_cases d:mid<=p;· exact h2 p q d o z
   · obtain⟨F,G,I,J⟩:=A p h (by omega);obtain⟨K,L,M,O⟩:=B q (by omega) z;rw [J,O];exact D F K G I L M
theorem wH(f:Nat->Nat)(s m e p:Nat)(h:p<s):aK f s m e p=f p:=by unfold aK;rw [ae (by omega),ae (by omega)]
theorem ud(f:Nat->Nat)(s m e p:Nat)(h:s<=p)(h2:p<s+(e - m)):aK f s m e p=f (p+m - s):=by unfold aK;rw [agQb (by omega)]
theorem ub(f:Nat->Nat)(s m e p:Nat)(h:s+(e - m)<=p)(h2:p<e):aK f s m e p=f (p - (e - m)):=by unfold aK;rw [ae (by omega),agQb (by omega)]
theorem wG(f:Nat->Nat)(s m e p:Nat)(h:e<=p)(d:s<=m)(o:m<=e):aK f s m e p=f p:=by unfold aK;rw [ae (by omega),ae (by omega)]
section
variable {key f:Nat->Nat} {a m b mid s e:Nat} (h1:a<=s) (h2:s<=m) (h3:m<=e) (h4:e<=b) (h5:e+s=mid+m)
include h1 h2 h3 h4 h5
theorem Hz(p:Nat)(d:a<=p)(h:p<mid):(p<s/\aK f s m e p=f p)\/(s<=p/\m<=p+m - s/\p+m - s<e/\aK f s m e p=f (p+m - s)):=by
 by_cases c:p<s;· exact .inl ⟨c,wH f s m e p c⟩
 · exact .inr ⟨by omega,by omega,by omega,ud f s m e p (by omega) (by omega)⟩
theorem Ax(p:Nat)(d:mid<=p)(h:p<b):(p<e/\s<=p - (e - m)/\p - (e - m)<m/\aK f s m e p=f (p - (e - m)))\/(e<=p/\aK f s m e p=f p):=by
 by_cases c:p<e;· exact .inl ⟨c,by omega,by omega,ub f s m e p (by omega) c⟩
 · exact .inr ⟨by omega,wG f s m e p (by omega) h2 h3⟩
theorem H7(B:bD key f a m)(D:bD key f m b)(L:a<s->e<b->bp key (f (s - 1)) (f e))(M:s<m->m<e->bp key (f (e - 1)) (f s)) :
  ∀ p q,a<=p->p<mid->mid<=q->q<b->bp key (aK f s m e p) (aK f s m e q):=by
 intro p q F O J o;have Q:∀ x y,a<=x->x<=y->y<m->∀ z,bp key (f y) z->bp key (f x) z:=fun x y i j k z d=>by
  by_cases c:x=y;· rw [c];exact d
  · exact ki (B x y i (by omega) k) d
 have R:∀ x y,m<=x->x<=y->y<b->∀ z,bp key z (f x)->bp key z (f y):=fun x y i j k z d=>by
  by_cases c:x=y;· rw [<- c];exact d
  · exact ki d (D x y i (by omega) k)
 have U:∀ x y,m<=x->x<=y->y<b->∀ z,bp key (f y) z->bp key (f x) z:=fun x y i j k z d=>by
  by_cases c:x=y;· rw [c];exact d
  · exact ki (D x y i (by omega) k) d
 have V:∀ x y,a<=x->x<=y->y<m->∀ z,bp key z (f x)->bp key z (f y):=fun x y i j k z d=>by
  by_cases c:x=y;· rw [<- c];exact d
  · exact ki d (B x y i (by omega) k)
 rcases Hz (f:=f) h1 h2 h3 h4 h5 p F O with⟨X,c2⟩ | ⟨X,c2,Y,K⟩
 · rcases Ax (f:=f) h1 h2 h3 h4 h5 q J o with⟨A,h,G,I⟩ | ⟨A,h⟩;· rw [c2,I];exact B _ _ F (by omega) G
   · rw [c2,h];exact Q p (s - 1) F (by omega) (by omega) _ (R e q h3 A o _ (L (by omega) (by omega)))
 · rcases Ax (f:=f) h1 h2 h3 h4 h5 q J o with⟨A,h,G,I⟩ | ⟨A,h⟩;· rw [K,I];exact U _ (e - 1) c2 (by omega) (by omega) _ (V s _ h1 h G _ (M (by omega) (by omega)))
   · rw [K,h];exact D _ _ c2 (by omega) o
theorem Hy(d:bD key f a m):bD key (aK f s m e) a s:=(d.sub (amQb a) h2).congr fun p _ h=>wH f s m e p h
theorem Hx(d:bD key f m b):bD key (aK f s m e) s mid:=fun i j x y z=>by
 rw [ud f s m e i x (by omega),ud f s m e j (by omega) (by omega)]
 exact d _ _ (by omega) (by omega) (by omega)
theorem Hw(d:bD key f a m):bD key (aK f s m e) mid e:=fun i j x y z=>by
 rw [ub f s m e i (by omega) (by omega),ub f s m e j (by omega) (by omega)]
 exact d _ _ (by omega) (by omega) (by omega)
theorem Hv(d:bD key f m b):bD key (aK f s m e) e b:=(d.sub h3 (amQb b)).congr fun p h _=>wG f s m e p h h2 h3
theorem Ia(d:nj f a m b):nj (aK f s m e) a s mid:=fun p q x y z t=>by
 rw [wH f s m e p y,ud f s m e q z (by omega)]
 exact d _ _ x (by omega) (by omega) (by omega)
theorem H8(d:nj f a m b):nj (aK f s m e) mid e b:=fun p q x y z t=>by
 rw [ub f s m e p (by omega) y,wG f s m e q z h2 h3]
 exact d _ _ (by omega) (by omega) (by omega) t
end
theorem IP(key f:Nat->Nat)(a m b d o p c:Nat)(D:bD key f a m)(F:bD key f m b)(h1:a<=d)(h2:o<=m)(h3:∀ x,d<=x->x<o->m<=p - x/\p - x<b/\x<=p)(G:d<=c)(I:c<o) :
  (bp key (f c) (f (p - c))->∀ x,d<=x->x<c+1->bp key (f x) (f (p - x)))/\(bp key (f (p - c)) (f c)->∀ x,c<=x->x<o->bp key (f (p - x)) (f x)):=by
 refine⟨fun h x J K=>?_,fun h x J K=>?_⟩
 · by_cases e:x=c;· rw [e];exact h
   · have q:=D x c (by omega) (by omega) (by omega);have z:=h3 x J (by omega);have A:=h3 c G I;have B:=F (p - c) (p - x) A.1 (by omega) z.2.1;exact ki q (ki h B)
 · by_cases e:x=c;· rw [e];exact h
   · have q:=D c x (by omega) (by omega) (by omega);have z:=h3 x (by omega) K;have A:=h3 c G I;have B:=F (p - x) (p - c) z.1 (by omega) A.2.1;exact ki B (ki h q)
theorem kz(c t i:Nat)(d:0<c):i / c=t↔c*t<=i/\i<c*t+c:=by
 constructor;· intro h;subst h;have h1:=tp i c;have h2:=kH i d;omega
 · rintro⟨h1,h2⟩;refine Nat.le_antisymm ?_ ?_;· refine vt ((nY d).2 ?_);rw [gw,Nat.mul_succ];omega
   · rw [vu d,gw];exact h1
structure fw (key f0 f:Nat->Nat) (c n lim:Nat):Prop where
 rear:cw f0 f 0 n
 loc:∀ p,p<n->∃ q,q<n/\q / c=p / c/\f p=f0 q
 srt:∀ i j,i<j->j<n->j<lim->i / c=j / c->bp key (f i) (f j)
theorem fw.start(key d:Nat->Nat)(c n:Nat):fw key d d c n 0:=⟨cw.refl _ _ _,fun p h=>⟨p,h,rfl,rfl⟩,fun i j _ _ h _=>by omega⟩
theorem fw.double{key d f:Nat->Nat}{c n:Nat}(h:fw key d f c n n):fw key d f (2*c) n 0:=
 ⟨h.rear, fun p o => by
  obtain ⟨q, h1, h2, h3⟩ := h.loc p o
  exact ⟨q, h1, by rw [gw 2 c, ← vw, ← vw, h2], h3⟩, fun i j _ _ h _ => by omega⟩
theorem fw.step{key D g z h:Nat->Nat}{c n t b:Nat}(A:0<c)(B:fw key D g c n (c*t))(J:∀ p,c*t<=p->g p=h p)(d:cw g z (c*t) b)(K:bD key z (c*t) b)(L:c*t<=b)(M:b<=n)(Z:b<=c*t+c)(aa:b=c*t+c\/b=n) :
  fw key D z c n b/\∀ p,b<=p->z p=h p:=by
 refine⟨⟨B.rear.trans (d.widen (anQb _) L M),fun p F=>?_,fun i j G O Q I=>?_⟩,fun p F=>?_⟩
 · by_cases o:c*t<=p/\p<b;· obtain⟨q,h1,h2,h3⟩:=d.mem p o.1 o.2;obtain⟨r,R,U,V⟩:=B.loc q (by omega);refine⟨r,R,?_,by rw [h3,V]⟩;rw [U,(kz c t q A).2 ⟨h1,by omega⟩,(kz c t p A).2 ⟨o.1,by omega⟩]
   · rw [d.1 p (by omega)];exact B.loc p F
 · by_cases o:j<c*t;· rw [d.1 i (by omega),d.1 j (by omega)];exact B.srt i j G O o I
   · have X:j / c=t:=(kz c t j A).2 ⟨by omega,by omega⟩;have Y:=(kz c t i A).1 (I.trans X);exact K i j Y.1 G Q
 · rw [d.1 p (by omega)];exact J p (by omega)
theorem fw.parts{key B f:Nat->Nat}{c n t b:Nat}(d:0<c)(z:fw key B f c n n)(J:∀ p q,p<q->q<n->B p<B q)(h1:2*c*t+c<=b)(U:b<=n)(V:b<=2*c*t+2*c) :
  nj f (2*c*t) (2*c*t+c) b/\bD key f (2*c*t) (2*c*t+c)/\bD key f (2*c*t+c) b:=by
 have K:2*c*t=c*(2*t):=by simp [gw,vp]
 have X:2*c*t+c=c*(2*t+1):=by rw [K,Nat.mul_succ]
 refine⟨fun p q D A F Y=>?_,fun i j D A F=>?_,fun i j D A F=>?_⟩;· obtain⟨G,Z,L,M⟩:=z.loc p (by omega);obtain⟨I,O,Q,R⟩:=z.loc q (by omega);have h:p / c=2*t:=(kz c (2*t) p d).2 ⟨by omega,by omega⟩;have o:q / c=2*t+1:=(kz c (2*t+1) q d).2 ⟨by omega,by omega⟩;have m1:=(kz c (2*t) G d).1 (L.trans h);have m2:=(kz c (2*t+1) I d).1 (Q.trans o);rw [M,R];exact J G I (by omega) O
 · have h:i / c=2*t:=(kz c (2*t) i d).2 ⟨by omega,by omega⟩;have o:j / c=2*t:=(kz c (2*t) j d).2 ⟨by omega,by omega⟩;exact z.srt i j A (by omega) (by omega) (h.trans o.symm)
 · have h:i / c=2*t+1:=(kz c (2*t+1) i d).2 ⟨by omega,by omega⟩;have o:j / c=2*t+1:=(kz c (2*t+1) j d).2 ⟨by omega,by omega⟩;exact z.srt i j A (by omega) (by omega) (h.trans o.symm)
theorem fw.rest{key o f:Nat->Nat}{c n t:Nat}(d:0<c)(q:fw key o f c n n)(D:n<=2*c*t+c):bD key f (2*c*t) n:=fun i j F z h=>by
 have G:2*c*t=c*(2*t):=by simp [gw,vp]
 have A:i / c=2*t:=(kz c (2*t) i d).2 ⟨by omega,by omega⟩
 have B:j / c=2*t:=(kz c (2*t) j d).2 ⟨by omega,by omega⟩
 exact q.srt i j z h h (A.trans B.symm)
theorem fw.whole{key h f:Nat->Nat}{c n:Nat}(o:fw key h f c n n)(z:n<=c):bD key f 0 n:=fun i j _ q d=>
 o.srt i j q d d (by rw [tj (by omega),tj (by omega)])
theorem fw.okay{key d f:Nat->Nat}{c n o:Nat}(z:fw key d f c n o){h:Nat->Prop}(A:∀ p,p<n->h (d p)):∀ p,p<n->h (f p):=fun p B=>by
 obtain⟨q,h1,_,h3⟩:=z.loc p B
 rw [h3];exact A q h1
structure It where
 w:UInt64
 leaf:Bool
 syms:List Nat
instance:Inhabited It:=⟨⟨0,false,[]⟩⟩
def cX:List It->List It
 | a::b::l=>⟨a.w+b.w,false,a.syms++b.syms⟩::cX l
 | _=>[]
def ci:List It->List It->List It
 | [],d=>d
 | l::h,[]=>l::h
 | l::h,k::d=>if l.w<=k.w then l::ci h (k::d)else k::ci (l::h) d
termination_by a b=>a.length+b.length
theorem ur(a:List It):ci a []=a:=by cases a <;> simp [ci]
theorem xI(a:List It):ci [] a=a:=by simp [ci]
theorem xL:∀ a b:List It,(ci a b).length=a.length+b.length:=by
 intro a b
 induction a,b using ci.induct with
 | case1 o=>simp [ci]
 | case2 l q=>simp [ci]
 | case3 l q k o h d=>rw [ci,agQb h,cdQb,d];simp;omega
 | case4 l q k o h d=>rw [ci,ae h,cdQb,d];simp;omega
theorem qD:∀ l:List It,(cX l).length=l.length / 2
 | []=>rfl
 | [_]=>by simp [cX]
 | a::b::l=>by rw [cX,cdQb,qD l];simp only [cdQb];omega
def aY(d:List It):Nat->List It
 | 0=>d
 | r+1=>ci d (cX (aY d r))
theorem Jn(d:List It)(r:Nat):(aY d r).length<=2*d.length:=by
 induction r with
 | zero=>simp [aY];omega
 | succ r h=>rw [aY,xL,qD];omega
theorem Jm(d:List It):∀ r,2*d.length<=(aY d r).length+(d.length+2 ^ r - 1) / 2 ^ r:=by
 intro r
 induction r with
 | zero=>simp [aY];omega
 | succ r q=>rw [aY,xL,qD];have h:(d.length+2 ^ (r+1) - 1) / 2 ^ (r+1)=((d.length+2 ^ r - 1) / 2 ^ r+1) / 2:=(by rw [kG,<- vw];have o:=mC r;have e:d.length+2 ^ r*2 - 1=(d.length+2 ^ r - 1)+2 ^ r*1:=(by omega);rw [e,Nat.add_mul_div_left _ _ o]);rw [h];omega
theorem Jo(d:List It)(r:Nat)(h:d.length<=2*2 ^ r):2*d.length - 2<=(aY d r).length:=by
 have h1:=Jm d r;have o:=mC r;have h2:(d.length+2 ^ r - 1) / 2 ^ r<=2:=by refine vt ((nY o).2 ?_);omega
 omega
def bz(l:List It):Nat:=(l.filter (·.leaf)).length
theorem Mw(l:List It):bz l<=l.length:=tr _ _
theorem BZ(d:List It)(A:∀ x∈d,x.leaf=true)(o:List It)(B:∀ x∈o,x.leaf=false) :
  ∀ t, t ≤ (ci d o).length → ∃ n m, n + m = t ∧ n ≤ d.length ∧ m ≤ o.length ∧ bz ((ci d o).take t) = n ∧
   ((ci d o).take t).filter (·.leaf)=d.take n/\((ci d o).take t).filter (fun x=>!x.leaf)=o.take m:=by
 induction d,o using ci.induct with
 | case1 o=>intro t z;rw [xI]at *;have D:(o.take t).filter (·.leaf)=[]:=List.filter_eq_nil_iff.2 fun x q=>(by simp [B x (jV q)]);have F:(o.take t).filter (fun x=>!x.leaf)=o.take t:=List.filter_eq_self.2 fun x q=>(by simp [B x (jV q)]);exact⟨0,t,by omega,by simp,z,by rw [bz,D];rfl,by rw [D];simp,F⟩
 | case2 l d=>intro t z;rw [ur]at *;have D:((l::d).take t).filter (·.leaf)=(l::d).take t:=List.filter_eq_self.2 fun x q=>A x (jV q);have F:((l::d).take t).filter (fun x=>!x.leaf)=[]:=List.filter_eq_nil_iff.2 fun x q=>(by simp [A x (jV q)]);exact⟨t,0,by omega,z,by simp,by rw [bz,D,aG];omega,D,by rw [F];simp⟩
 | case3 l d k o h G=>
  intro t z;rw [ci,agQb h]at *
  cases t with
  | zero=>exact⟨0,0,rfl,by simp,by simp,by simp [bz],by simp,by simp⟩
  | succ t=>
   obtain⟨n,m,h1,h2,h3,h4,h5,I⟩:=G (fun x q=>A x (by simp [q])) B t (by simpa using z);have e:=A l (by simp);refine⟨n+1,m,by omega,by simpa using h2,h3,?_,?_,?_⟩;· rw [bz,iY,rB (by exact e),cdQb];exact gSQb (·+1) h4
   · rw [iY,rB (by exact e),h5,iY]
   · rw [iY,rC (by simp [e]),I]
 | case4 l d k o h G=>
  intro t z;rw [ci,ae h]at *
  cases t with
  | zero=>exact⟨0,0,rfl,by simp,by simp,by simp [bz],by simp,by simp⟩
  | succ t=>
   obtain⟨n,m,h1,h2,h3,h4,h5,I⟩:=G A (fun x q=>B x (by simp [q])) t (by simpa using z);have e:=B k (by simp);refine⟨n,m+1,by omega,h2,by simpa using h3,?_,?_,?_⟩;· rw [bz,iY,rC (by simp [e])];exact h4
   · rw [iY,rC (by simp [e]),h5]
   · rw [iY,rB (by simp [e]),I,iY]
theorem xi:∀ (l:List It),∀ x∈cX l,x.leaf=false
 | [],x,h=>by simp [cX]at h
 | [_],x,h=>by simp [cX]at h
 | a::b::l,x,h=>by
  rw [cX]at h
  rcases jW.1 h with rfl | h
  · rfl
  · exact xi l x h
def cQ(l:List It):List Nat:=(l.map (·.syms)).flatten
theorem pq(x:It)(l:List It):cQ (x::l)=x.syms++cQ l:=rfl
theorem Aw(l m:List It):cQ (l++m)=cQ l++cQ m:=by simp [cQ]
theorem BA:∀ (l:List It) (m:Nat),m<=l.length / 2->cQ ((cX l).take m)=cQ (l.take (2*m))
 | [],m,h=>by simp at h;subst h;rfl
 | [_],m,h=>by simp at h;subst h;rfl
 | a::b::l,0,h=>by simp
 | a::b::l,m+1,h=>by
  rw [cX,iY,pq,BA l m (by simp at h;omega),show 2*(m+1)=2*m+2 by omega,iY,iY,pq,pq,mG]
theorem OY(s:Nat)(l:List It):(cQ l).count s=(cQ (l.filter (·.leaf))).count s+(cQ (l.filter (fun x=>!x.leaf))).count s:=by
 induction l with
 | nil=>rfl
 | cons x l d=>
  rw [pq,vE,d];by_cases h:x.leaf=true;· rw [rB (p:=fun x:It=>x.leaf) h,rC (by simp [h]),pq,vE];omega
  · rw [rC (p:=fun x:It=>x.leaf) h,rB (by simp [h]),pq,vE];omega
def nH(d:List It):Nat->Nat->Nat->Nat
 | 0,t,s=>(cQ (d.take (bz ((aY d 0).take t)))).count s
 | r+1,t,s=>(cQ (d.take (bz ((aY d (r+1)).take t)))).count s+nH d r (2*(t - bz ((aY d (r+1)).take t))) s
theorem Dp(d:List It)(o:∀ x∈d,x.leaf=true)(s:Nat):∀ r t,t<=(aY d r).length->(cQ ((aY d r).take t)).count s=nH d r t s:=by
  intro r
  induction r with
  | zero=>intro t h;have q:(d.take t).filter (·.leaf)=d.take t:=List.filter_eq_self.2 fun x z=>o x (jV z);have A:t<=d.length:=h;show(cQ (d.take t)).count s=(cQ (d.take (bz (d.take t)))).count s;rw [bz,q,aG,gxQb A]
  | succ r B=>intro t h;obtain⟨n,m,h1,h2,h3,h4,h5,D⟩:=BZ d o (cX (aY d r)) (xi _) t h;rw [qD]at h3;show _=(cQ (d.take (bz ((ci d (cX (aY d r))).take t)))).count s+nH d r (2*(t - bz ((ci d (cX (aY d r))).take t))) s;rw [h4,OY];show(cQ (((ci d (cX (aY d r))).take t).filter (·.leaf))).count s+(cQ (((ci d (cX (aY d r))).take t).filter (fun x=>!x.leaf))).count s=_;rw [h5,D,BA _ _ h3,show t - n=m by omega,B _ (by omega)]
theorem Oj(d:List It)(h:∀ x∈d,x.leaf=true)(r t:Nat)(o:t<=(aY d (r+1)).length):bz ((aY d (r+1)).take t)<=t/\bz ((aY d (r+1)).take t)<=d.length/\2*(t - bz ((aY d (r+1)).take t))<=(aY d r).length:=by
 obtain⟨n,m,h1,h2,h3,h4,h5,q⟩:=BZ d h (cX (aY d r)) (xi _) t o;rw [qD]at h3;show bz ((ci d (cX (aY d r))).take t)<=t/\bz ((ci d (cX (aY d r))).take t)<=d.length/\2*(t - bz ((ci d (cX (aY d r))).take t))<=_;rw [h4];omega
def dR(d:List It):Nat->Nat->Nat->Nat
 | 0,_,_=>0
 | q+1,t,s=>(cQ (d.take (bz ((aY d q).take t)))).count s+dR d q (2*(t - bz ((aY d q).take t))) s
theorem OL(d:List It)(s:Nat):∀ r t,dR d (r+1) t s=nH d r t s:=by
 intro r
 induction r with
 | zero=>intro t;rw [dR,dR,nH];rfl
 | succ r h=>intro t;rw [dR,h,nH]
theorem OM(d:List It)(o:∀ x∈d,x.leaf=true)(r t s:Nat)(h:t<=(aY d r).length):dR d (r+1) t s=(cQ ((aY d r).take t)).count s:=by
 rw [OL,<- Dp d o s r t h]
theorem Mu(l:List It)(k:Nat)(h:k<l.length):bz (l.take (k+1))=bz (l.take k)+if l[k].leaf then 1 else 0:=by
 unfold bz;rw [gy h,rD,aDQb];by_cases c:l[k].leaf=true;· rw [rB (p:=fun x:It=>x.leaf) c,agQb c];rfl
 · rw [rC (p:=fun x:It=>x.leaf) c,ae c];rfl
theorem Ht(l:List It)(k:Nat)(h:k<l.length)(s:Nat)(d:l[k].syms=[s]):cQ (l.take (k+1))=cQ (l.take k)++[s]:=by
 rw [gy h,Aw];show _++(l[k].syms++[])=_;rw [d];rfl
theorem Cy(d:List It)(o:∀ x∈d,x.leaf=true)(q t:Nat)(h:t<=(aY d q).length):bz ((aY d q).take t)<=t/\bz ((aY d q).take t)<=d.length/\(0<q->2*(t - bz ((aY d q).take t))<=(aY d (q - 1)).length):=by
 cases q with
 | zero=>
  have h1:=Mw (d.take t);rw [aG]at h1;refine⟨?_,?_,fun h=>by omega⟩;· show bz (d.take t)<=t;omega
  · show bz (d.take t)<=d.length;omega
 | succ r=>obtain⟨h1,h2,h3⟩:=Oj d o r t h;exact⟨h1,h2,fun _=>h3⟩
theorem Mv(l:List It)(j t:Nat)(h:j<=t):bz (l.take j)<=bz (l.take t):=by
 unfold bz;have:l.take j=(l.take t).take j:=by rw [tqQb,gxQb h]
 rw [this];exact List.Sublist.length_le ((List.take_sublist _ _).filter _)
def LF(l:List Nat):Nat:=l.foldl max 0
def JR(d:List Nat)(n:Nat):List Nat:=d.take (d.length - n)++[LF (d.drop (d.length - n))+1]
theorem sd(f g:Nat->Nat)(d:∀ p q,p<256->q<256->f (p ^^^ q)=f p ^^^ f q)(o:∀ p q,p<256->q<256->g (p ^^^ q)=g p ^^^ g q)(O:∀ k,k<8->f (2 ^ k)=g (2 ^ k))(i:Nat)(Q:i<256):f i=g i:=by
 have e:sH i=i:=by simpa using iD 256 _ PV i Q
 have R:f 0=0:=by have:=d 0 0 (by omega) (by omega);simpa using this
 have U:g 0=0:=by have:=o 0 0 (by omega) (by omega);simpa using this
 have z:∀ k,k<8->kW i k<2 ^ 8:=by
  intro k h;unfold kW;split;· exact Nat.pow_lt_pow_right (by omega) h
  · omega
 have A:∀ k,k<8->f (kW i k)=g (kW i k):=by
  intro k h;unfold kW;split;· exact O k h
  · rw [R,U]
 have B:∀ {p q:Nat},p<2 ^ 8->q<2 ^ 8->p ^^^ q<2 ^ 8:=fun h1 h2=>jz h1 h2;have L:=z 0 (by omega);have h1:=z 1 (by omega);have h2:=z 2 (by omega);have h3:=z 3 (by omega);have h4:=z 4 (by omega);have h5:=z 5 (by omega);have D:=z 6 (by omega);have F:=z 7 (by omega);have G:=B D F;have I:=B h5 G;have J:=B h4 I;have k3:=B h3 J;have K:=B h2 k3;have M:=B h1 K;have:f (sH i)=g (sH i):=by unfold sH;rw [d _ _ L M,d _ _ h1 K,d _ _ h2 k3,d _ _ h3 J,d _ _ h4 I,d _ _ h5 G,d _ _ D F,o _ _ L M,o _ _ h1 K,o _ _ h2 k3,o _ _ h3 J,o _ _ h4 I,o _ _ h5 G,o _ _ D F];rw [A 0 (by omega),A 1 (by omega),A 2 (by omega),A 3 (by omega),A 4 (by omega),A 5 (by omega),A 6 (by omega),A 7 (by omega)]
 rwa [e]at this
theorem Ij(f:Nat):∀ p q b,p<256->q<256->cH f (p ^^^ q) b=cH f p b ^^^ cH f q b:=by
 induction f with
 | zero=>intro p q b _ _;simp [cH]
 | succ f o=>intro p q b d h;rw [cH,cH,cH,Ab p q d h,o _ _ _ (pd p d) (pd q h),tH];congr 1;split <;> simp
theorem pH(p q b:Nat)(d:p<256)(h:q<256):aJ (p ^^^ q) b=aJ p b ^^^ aJ q b:=by rw [ml,ml,ml,Ij 8 p q b d h]
theorem Pe:gP 8 (fun i=>gP 8 fun j=>aJ (2 ^ i) (2 ^ j) == aJ (2 ^ j) (2 ^ i))=true:=by decide +kernel
theorem BX(a b:Nat)(o:a<256)(z:b<256):aJ a b=aJ b a:=by
 refine sd (fun b=>aJ a b) (fun b=>aJ b a) (fun p q _ _=>pI a p q) (fun p q d h=>pH p q a d h) ?_ b z;intro j A;refine sd (fun a=>aJ a (2 ^ j)) (fun a=>aJ (2 ^ j) a) (fun p q d h=>pH p q _ d h) (fun p q _ _=>pI _ p q) ?_ a o;intro i B;simpa using iD 8 _ (iD 8 _ Pe i B) j A
theorem Qu:gP 8 (fun i=>gP 8 fun j=>gP 8 fun k=>aJ (aJ (2 ^ i) (2 ^ j)) (2 ^ k) == aJ (2 ^ i) (aJ (2 ^ j) (2 ^ k)))=true:=by decide +kernel
theorem Ly(a b c:Nat)(o:a<256)(A:b<256)(B:c<256):aJ (aJ a b) c=aJ a (aJ b c):=by
 refine sd (fun c=>aJ (aJ a b) c) (fun c=>aJ a (aJ b c)) (fun p q _ _=>by simp only [pI]) (fun p q _ _=>by simp only [pI]) ?_ c B;intro k D;refine sd (fun b=>aJ (aJ a b) (2 ^ k)) (fun b=>aJ a (aJ b (2 ^ k))) (fun p q _ _=>?_) (fun p q d h=>?_) ?_ b A;· show aJ (aJ a (p ^^^ q)) _=_;rw [pI,pH _ _ _ (mT a p o) (mT a q o)]
 · show aJ a (aJ (p ^^^ q) _)=_;rw [pH _ _ _ d h,pI]
 intro j z;have G:2 ^ j<256:=Nat.pow_lt_pow_right (n:=8) (by omega) z;refine sd (fun a=>aJ (aJ a (2 ^ j)) (2 ^ k)) (fun a=>aJ a (aJ (2 ^ j) (2 ^ k))) (fun p q d h=>?_) (fun p q d h=>?_) ?_ a o;· show aJ (aJ (p ^^^ q) _) _=_;rw [pH _ _ _ d h,pH _ _ _ (mT p _ d) (mT q _ h)]
 · show aJ (p ^^^ q) _=_;rw [pH _ _ _ d h]
 intro i F;simpa using iD 8 _ (iD 8 _ (iD 8 _ Qu i F) j z) k D
def aP(a b:UInt8):UInt8:=UInt8.ofNat (aJ a.toNat b.toNat)
def eH(a:UInt8):UInt8:=UInt8.ofNat (if a.toNat=0 then 0 else lJ a.toNat)
theorem nC(n:Nat)(h:n<256):(UInt8.ofNat n).toNat=n:=by rw [lP];exact oU h
theorem kO(a b:UInt8):(aP a b).toNat=aJ a.toNat b.toNat:=nC _ (mT _ _ a.toNat_lt)
theorem oC(a b:UInt8):aP a b=aP b a:=by unfold aP;rw [BX _ _ a.toNat_lt b.toNat_lt]
theorem oD(a b c:UInt8):aP (aP a b) c=aP a (aP b c):=eA.1 (by rw [kO,kO,kO,kO,Ly _ _ _ a.toNat_lt b.toNat_lt c.toNat_lt])
theorem pJ(a b c:UInt8):aP a (aP b c)=aP b (aP a c):=by rw [<- oD,oC a b,oD]
theorem rX(a b c:UInt8):aP a (b ^^^ c)=aP a b ^^^ aP a c:=eA.1 (by rw [kO,UInt8.toNat_xor,UInt8.toNat_xor,kO,kO,pI])
theorem tG(a b c:UInt8):aP (a ^^^ b) c=aP a c ^^^ aP b c:=by rw [oC,rX,oC c,oC c]
theorem lG(a:UInt8):aP a 0=0:=eA.1 (by rw [kO];exact BW _)
theorem qq(a:UInt8):aP 0 a=0:=eA.1 (by rw [kO];exact BV _)
theorem BL:gP 256 (fun a=>aJ a 1 == a)=true:=by decide +kernel
theorem qJ(a:UInt8):aP a 1=a:=eA.1 (by rw [kO];simpa using iD 256 _ BL a.toNat a.toNat_lt)
theorem rV(a:UInt8):aP 1 a=a:=by rw [oC,qJ]
theorem G8(a:UInt8)(h:a≠0):a.toNat≠0:=fun e=>h (eA.1 e)
theorem pK(a:UInt8)(h:a≠0):aP a (eH a)=1:=by
 have d:=G8 a h;have h1:=CE a.toNat d a.toNat_lt;unfold eH;rw [ae d];exact eA.1 (by rw [kO,nC _ h1.1,h1.2.1];rfl)
theorem MH:eH 1=1:=by decide +kernel
theorem rY(a b:UInt8)(d:a≠0)(h:aP a b=0):b=0:=by
 have h1:aP (eH a) (aP a b)=b:=by rw [<- oD,oC (eH a),pK a d,rV]
 rw [h,lG]at h1;exact h1.symm
theorem xX(a:UInt8)(h:a≠0):eH a≠0:=by
 intro e;have:=pK a h;rw [e,lG]at this;exact absurd this (by decide)
theorem Fx{a b:UInt8}(h:a ^^^ b=0):a=b:=by
 have:a ^^^ b ^^^ b=b:=by rw [h];exact tg
 rwa [nV,qd,oS]at this
theorem oX{a b:UInt8}(h:a≠b):a ^^^ b≠0:=fun e=>h (Fx e)
def eE:List UInt8->UInt8
 | []=>0
 | x::l=>x ^^^ eE l
theorem Fs(a b:List UInt8):eE (a++b)=eE a ^^^ eE b:=by
 induction a with
 | nil=>simp [eE]
 | cons x a d=>rw [qm,eE,eE,d,nV]
theorem vL(c:UInt8)(l:List UInt8):aP c (eE l)=eE (l.map (aP c)):=by
 induction l with
 | nil=>exact lG c
 | cons x l d=>rw [eE,rX,d,gTQb,eE]
theorem rF(a b c d:UInt8):(a ^^^ b) ^^^ (c ^^^ d)=(a ^^^ c) ^^^ (b ^^^ d):=by
 rw [nV,nV,<- nV b,UInt8.xor_comm b c,nV c]
theorem Ft{α:Type}(f g:α->UInt8)(l:List α):eE (l.map f) ^^^ eE (l.map g)=eE (l.map fun x=>f x ^^^ g x):=by
 induction l with
 | nil=>simp [eE]
 | cons x l d=>simp only [gTQb,eE];rw [rF,d]
theorem PA(a b d g:UInt8)(o:a≠0)(h:b≠0):aP (a ^^^ b) (aP (aP g (aP d (eH b))) (eH a))=aP (a ^^^ d) (aP g (eH a)) ^^^ aP (b ^^^ d) (aP g (eH b)):=by
 have A:∀ z,aP a (aP z (eH a))=z:=fun z=>by rw [pJ,pK a o,qJ]
 have B:∀ z,aP b (aP z (eH b))=z:=fun z=>by rw [pJ,pK b h,qJ]
 rw [tG,tG,tG,A,A,B,rF,qd,tg,oD g,oD d,pJ b g,pJ b d,<- oD b,pK b h,rV,pJ d g,pJ d g,UInt8.xor_comm]
theorem P9:∀ (A xs:List UInt8) (c:UInt8->UInt8),A≠[]->A.length<=xs.length->A.Nodup->xs.Nodup->(∀ x∈xs,x ∉ A)->(∀ y∈A,c y≠0)->(∀ x∈xs,eE (A.map fun y=>aP (c y) (eH (x ^^^ y)))=0)->False:=by
 intro A
 induction A with
 | nil=>intro xs c h;exact absurd rfl h
 | cons o A X=>
  intro xs c _ I J K B L M;obtain _ | ⟨q,xs⟩:=xs;· simp at I
  have F:=B q (by simp);have D:=M q (by simp);rw [gTQb,eE]at D;by_cases O:A=[];· subst O;rw [qiQb,eE,oS]at D;exact xX _ (oX (fun e=>F (by simp [e]))) (rY _ _ (L o (by simp)) D)
  · refine X xs (fun y=>aP (c y) (aP (y ^^^ o) (eH (q ^^^ y)))) O (by simpa using I) (ry.1 J).2 (ry.1 K).2 (fun x h=>fun h2=>B x (by simp [h]) (by simp [h2])) ?_ ?_;· intro y h e;have h1:=rY _ _ (L y (by simp [h])) e;have h2:=rY _ _ (oX (fun e:y=o=>(ry.1 J).1 (e ▸ h))) h1;exact xX _ (oX (fun e=>F (by simp [e,h]))) h2
    · intro x h;have Q:=M x (by simp [h]);rw [gTQb,eE]at Q;have Y:x ^^^ q≠0:=oX (fun e:x=q=>(ry.1 K).1 (e ▸ h));refine rY _ _ Y ?_;have m:∀ z,z∈q::xs->aP (z ^^^ o) (aP (c o) (eH (z ^^^ o)))=c o:=(by intro z Z;rw [pJ,pK _ (oX (fun e=>B z Z (by simp [e]))),qJ]);have R:=gSQb (aP (q ^^^ o)) D;have U:=gSQb (aP (x ^^^ o)) Q;rw [rX,m q (by simp),lG,vL,nZQb]at R;rw [rX,m x (by simp [h]),lG,vL,nZQb]at U;have G:=congr (gSQb (· ^^^ ·) U) R;simp only [oS]at G;rw [rF,qd,tg,Ft]at G;rw [vL,nZQb,<- G];congr 1;refine jA fun y V=>?_;simp only [Function.comp];have ha:x ^^^ y≠0:=oX (fun e=>B x (by simp [h]) (by simp [e,V]));have hb:q ^^^ y≠0:=oX (fun e=>F (by simp [e,V]));have q1:x ^^^ q=(x ^^^ y) ^^^ (q ^^^ y):=(by rw [rF,qd,oS]);have q2:x ^^^ o=(x ^^^ y) ^^^ (y ^^^ o):=(by rw [nV,<- nV y,qd,tg]);have q3:q ^^^ o=(q ^^^ y) ^^^ (y ^^^ o):=(by rw [nV,<- nV y,qd,tg]);rw [q1,q2,q3];generalize x ^^^ y=a at *;generalize q ^^^ y=b at *;generalize y ^^^ o=d at *;generalize c y=g at *;exact PA a b d g ha hb
def xs:Nat->(Nat->UInt8)->UInt8
 | 0,_=>0
 | n+1,f=>xs n f ^^^ f n
theorem zy(n:Nat)(f:Nat->UInt8)(h:∀ j,j<n->f j=0):xs n f=0:=by
 induction n with
 | zero=>rfl
 | succ n d=>rw [xs,d (fun j o=>h j (by omega)),h n (by omega)];rfl
theorem rE(n:Nat)(f g:Nat->UInt8)(h:∀ j,j<n->f j=g j):xs n f=xs n g:=by
 induction n with
 | zero=>rfl
 | succ n d=>rw [xs,xs,d (fun j o=>h j (by omega)),h n (by omega)]
theorem vM(n i:Nat)(f:Nat->UInt8)(z:i<n)(h:∀ j,j<n->j≠i->f j=0):xs n f=f i:=by
 induction n with
 | zero=>omega
 | succ n d=>
  by_cases e:i=n;· subst e;rw [xs,zy i f (fun j o=>h j (by omega) (by omega)),tg]
  · rw [xs,d (by omega) (fun j o q=>h j (by omega) q),h n (by omega) (by omega),oS]
theorem zB(n:Nat)(f g:Nat->UInt8):xs n f ^^^ xs n g=xs n (fun j=>f j ^^^ g j):=by
 induction n with
 | zero=>exact qd.symm ▸ rfl
 | succ n d=>rw [xs,xs,xs,rF,d]
theorem zA(n:Nat)(c:UInt8)(f:Nat->UInt8):aP c (xs n f)=xs n (fun j=>aP c (f j)):=by
 induction n with
 | zero=>exact lG c
 | succ n d=>rw [xs,rX,d,xs]
theorem Fu(n r i:Nat)(f:Nat->UInt8)(o:r<n)(q:i<n)(z:r≠i)(h:∀ j,j<n->j≠r->j≠i->f j=0):xs n f=f r ^^^ f i:=by
 have e:xs n f=xs n (fun j=>(if j=r then f r else 0) ^^^ (if j=i then f i else 0)):=by
  refine rE n _ _ fun j A=>?_;by_cases h1:j=r;· subst h1;simp [z]
  · by_cases h2:j=i;· subst h2;simp [h1]
    · simp [h1,h2,h j A h1 h2]
 rw [e,<- zB,vM n r _ o (fun j _ d=>by simp [d]),vM n i _ q (fun j _ d=>by simp [d])];simp
theorem Fv(n:Nat)(f:Nat->UInt8):xs n f=eE ((List.range n).map f):=by
 induction n with
 | zero=>rfl
 | succ n d=>rw [xs,d,lf,gp,Fs];simp [eE]
theorem Fq(l:List Nat)(f:Nat->UInt8)(p:Nat->Bool)(h:∀ x∈l,p x=false->f x=0):eE (l.map f)=eE ((l.filter p).map f):=by
 induction l with
 | nil=>rfl
 | cons x l d=>
  rw [gTQb,eE,d (fun y o=>h y (by simp [o])),tt];cases q:p x;· rw [h x (by simp) q];simp
  · simp [eE]
def mO(A:Nat->Nat->UInt8)(c:Nat):Nat->Nat->Nat
 | 0,p=>p
 | f+1,p=>if A p c=0 then mO A c f (p+1)else p
def jG(A:Nat->Nat->UInt8)(n i:Nat):Nat:=mO A i (n - i) i
def fT(A:Nat->Nat->UInt8)(i p:Nat):Nat->Nat->UInt8:=fun r j=>A (if r=i then p else if r=p then i else r) j
def l9(A:Nat->Nat->UInt8)(i:Nat)(c:UInt8):Nat->Nat->UInt8:=fun r j=>if r=i then aP c (A i j)else A r j
def db(A:Nat->Nat->UInt8)(i K:Nat):Nat->Nat->UInt8:=fun r j=>if r<K/\r≠i then A r j ^^^ aP (A r i) (A i j)else A r j
def lY(A:Nat->Nat->UInt8)(n i:Nat):Nat->Nat->UInt8:=l9 (fT A i (jG A n i)) i (eH (A (jG A n i) i))
def ow(A:Nat->Nat->UInt8)(n i:Nat):Nat->Nat->UInt8:=db (lY A n i) i n
def ix(A:Nat->Nat->UInt8)(n:Nat):Nat->Nat->Nat->UInt8
 | 0=>A
 | i+1=>ow (ix A n i) n i
theorem Kk(A:Nat->Nat->UInt8)(c:Nat):∀ f p,p<=mO A c f p/\mO A c f p<=p+f/\(∀ q,p<=q->q<mO A c f p->A q c=0)/\(mO A c f p<p+f->A (mO A c f p) c≠0):=by
 intro f
 induction f with
 | zero=>intro p;rw [mO];exact⟨amQb _,amQb _,fun q h1 h2=>by omega,fun h=>by omega⟩
 | succ f d=>
  intro p;rw [mO];by_cases h:A p c=0
  · rw [agQb h];obtain⟨h1,h2,h3,h4⟩:=d (p+1);refine⟨by omega,by omega,fun q z o=>?_,fun B=>h4 (by omega)⟩;by_cases e:q=p;· subst e;exact h
    · exact h3 q (by omega) o
  · rw [ae h];exact⟨amQb _,by omega,fun q h1 h2=>by omega,fun _=>h⟩
structure nS (A:Nat->Nat->UInt8) (n i:Nat):Prop where
 ge:i<=jG A n i
 lt:jG A n i<n
 ne:A (jG A n i) i≠0
 zero:∀ q,i<=q->q<jG A n i->A q i=0
theorem Kj(A:Nat->Nat->UInt8)(n i:Nat)(B:i<n)(h:¬∀ q,i<=q->q<n->A q i=0):nS A n i:=by
 obtain⟨h1,h2,h3,h4⟩:=Kk A i (n - i) i;have d:jG A n i<n:=by apply tA;intro o;refine h fun q z D=>h3 q z ?_;unfold jG at o;omega
 exact⟨h1,d,h4 (by unfold jG at d;omega),h3⟩
def dJ(A:Nat->Nat->UInt8)(n r:Nat)(v:Nat->UInt8):UInt8:=xs n fun j=>aP (A r j) (v j)
theorem Oq(A:Nat->Nat->UInt8)(n i p:Nat)(v:Nat->UInt8)(d:i<n)(o:p<n)(h:∀ r,r<n->dJ (fT A i p) n r v=0):∀ r,r<n->dJ A n r v=0:=by
 intro r q;by_cases h1:r=i
 · subst h1;have:=h p o;unfold dJ fT at this;by_cases e:p=r;· subst e;simpa [dJ] using this
   · simpa [dJ,e] using this
 · by_cases h2:r=p;· subst h2;have:=h i d;simpa [dJ,fT] using this
   · have:=h r q;simpa [dJ,fT,h1,h2] using this
theorem Ou(A:Nat->Nat->UInt8)(n i:Nat)(c:UInt8)(v:Nat->UInt8)(d:c≠0)(h:∀ r,r<n->dJ (l9 A i c) n r v=0):∀ r,r<n->dJ A n r v=0:=by
 intro r o;have h2:=h r o;by_cases h1:r=i;· subst h1;refine rY c _ d ?_;unfold dJ;rw [zA,<- h2];unfold dJ l9;exact rE n _ _ fun j _=>by simp [oD]
 · simpa [dJ,l9,h1] using h2
theorem Ov(A:Nat->Nat->UInt8)(n i:Nat)(v:Nat->UInt8)(q:i<n)(h:∀ r,r<n->dJ (db A i n) n r v=0):∀ r,r<n->dJ A n r v=0:=by
 have d:dJ A n i v=0:=by simpa [dJ,db] using h i q
 intro r o;by_cases h1:r=i;· subst h1;exact d
 · have h2:=h r o;have e:dJ (db A i n) n r v=dJ A n r v ^^^ aP (A r i) (dJ A n i v):=(by unfold dJ;rw [zA,zB];refine rE n _ _ fun j _=>?_;simp only [db,o,h1,ne_eq,not_false_eq_true,and_self,mA];rw [tG,oD]);rw [e,d,lG,oS]at h2;exact h2
theorem Ot(A:Nat->Nat->UInt8)(n i:Nat)(v:Nat->UInt8)(d:i<n)(o:nS A n i)(h:∀ r,r<n->dJ (ow A n i) n r v=0):∀ r,r<n->dJ A n r v=0:=
 Oq A n i _ v d o.lt (Ou _ n i _ v (xX _ o.ne) (Ov _ n i v d h))
def gn(A:Nat->Nat->UInt8)(n i:Nat):Prop:=∀ c,c<i->∀ r,r<n->A r c=if r=c then 1 else 0
theorem Ge(A:Nat->Nat->UInt8)(n i:Nat)(D:i<n)(q:nS A n i)(z:gn A n i):gn (ow A n i) n (i+1):=by
 have B:∀ c,c<i->∀ r,r<n->lY A n i r c=if r=c then 1 else 0:=by
  intro c o r h;have h1:=q.ge;have h2:=q.lt;unfold lY l9 fT;by_cases e:r=i;· subst e;rw [agQb rfl,agQb rfl,z c o _ h2,ae (by omega),ae (by omega),lG]
  · rw [ae e,ae e];by_cases d:r=jG A n i;· rw [agQb d,z c o i D,ae (by omega),ae (by omega)]
    · rw [ae d,z c o r h]
 have F:lY A n i i i=1:=by unfold lY l9 fT;rw [agQb rfl,agQb rfl,oC,pK _ q.ne]
 intro c o r h;unfold ow db;by_cases e:r=i
 · subst e;rw [ae (by simp)];by_cases d:c=r;· subst d;rw [F,agQb rfl]
   · exact B c (by omega) r h
 · rw [agQb ⟨h,e⟩];by_cases d:c=i;· subst d;rw [F,qJ,qd,ae e]
   · rw [B c (by omega) r h,B c (by omega) i D,ae (c:=i=c) (by omega),lG,oS]
def pX(A:Nat->Nat->UInt8)(n:Nat):Prop:=∀ v:Nat->UInt8,(∀ r,r<n->dJ A n r v=0)->∀ j,j<n->v j=0
theorem Nv(A:Nat->Nat->UInt8)(n:Nat)(B:pX A n):∀ i,i<=n->gn (ix A n i) n i/\(∀ v:Nat->UInt8,(∀ r,r<n->dJ (ix A n i) n r v=0)->∀ r,r<n->dJ A n r v=0)/\∀ t,t<i->nS (ix A n t) n t:=by
 intro i
 induction i with
 | zero=>exact fun _=>⟨fun c L=>by omega,fun v h=>h,fun t D=>by omega⟩
 | succ i F=>
  intro M;obtain⟨h1,h2,h3⟩:=F (by omega);have q:nS (ix A n i) n i:=by
   refine Kj _ n i (by omega) fun G=>?_;have key:=B (fun j=>if j<i then ix A n i j i else if j=i then 1 else 0) (h2 _ fun r d=>?_) i (by omega);· simp at key
   · unfold dJ;by_cases z:r<i
     · rw [Fu n r i _ d (by omega) (by omega)];· rw [h1 r z r d];simp [z,rV,qJ]
       · intro j I J K;by_cases o:j<i;· rw [h1 j o r d,ae (fy J),qq]
         · simp [o,K,lG]
     · refine zy n _ fun j I=>?_;by_cases o:j<i;· rw [h1 j o r d,ae (by omega),qq]
       · by_cases e:j=i;· subst e;rw [G r (by omega) d,qq]
         · simp [o,e,lG]
  refine⟨Ge _ n i (by omega) q h1,fun v h=>h2 v (Ot _ n i v (by omega) q h),fun t D=>?_⟩;by_cases e:t=i;· subst e;exact q
  · exact h3 t (by omega)
theorem Nu(A:Nat->Nat->UInt8)(n:Nat)(d:pX A n)(i:Nat)(h:i<n):nS (ix A n i) n i:=(Nv A n d n (amQb _)).2.2 i h
def eo(M:Nat->Nat->UInt8)(n:Nat):Nat->Nat->UInt8:=fun r j=>if j<n then M r j else if j - n=r then 1 else 0
theorem Qs(M:Nat->Nat->UInt8)(n:Nat)(h:pX M n):pX (eo M n) n:=by
 intro v d;refine h v fun r o=>?_;rw [<- d r o];unfold dJ;exact rE n _ _ fun j q=>by simp [eo,q]
theorem Nw(M d:Nat->Nat->UInt8)(n:Nat)(h:pX M n)(q:∀ r,r<n->∀ j,j<n->d r j=M r j):pX d n:=by
 intro v z;refine h v fun r o=>?_;rw [<- z r o];unfold dJ;exact rE n _ _ fun j A=>by rw [q r o j A]
theorem I3(M:Nat->Nat->UInt8)(n:Nat)(h:∀ r,r<n->∀ j,j<n->M r j=if r=j then 1 else 0):∀ i,i<=n->∀ r,r<n->∀ j,ix (eo M n) n i r j=eo M n r j:=by
 intro i
 induction i with
 | zero=>intro _ r _ j;rfl
 | succ i o=>
  intro B r d j;have o:=o (by omega);have z:jG (ix (eo M n) n i) n i=i:=(by unfold jG;obtain⟨f,A⟩:∃ f,n - i=f+1:=⟨n - i - 1,by omega⟩;rw [A,mO,o i (by omega),ae];simp only [eo,show i<n from by omega,mA];rw [h i (by omega) i (by omega)];simp);have h1:eo M n i i=1:=(by simp only [eo,show i<n from by omega,mA];rw [h i (by omega) i (by omega)];simp);have q:∀ r,r<n->∀ j,lY (ix (eo M n) n i) n i r j=eo M n r j:=by
   intro r d j;unfold lY l9 fT;rw [z];by_cases e:r=i;· subst e;rw [agQb rfl,agQb rfl,o r d,o r d,h1,MH,rV]
   · rw [ae e,ae e,ae e,o r d]
  show db _ i n r j=_;unfold db;by_cases e:r=i;· subst e;rw [ae (by simp)];exact q r d j
  · rw [agQb ⟨d,e⟩,q r d j,q r d i,show eo M n r i=0 from ?_,qq,oS];simp only [eo,show i<n from by omega,mA];rw [h r d i (by omega),ae e]
def lm(k t j:Nat):UInt8:=if t<k then(if t=j then 1 else 0)else eH (UInt8.ofNat (t ^^^ j))
theorem Lt:∀ (n:Nat) (l:List Nat),l.Nodup->(∀ x∈l,x<n)->l.length<=n:=by
 intro n
 induction n with
 | zero=>
  intro l _ h;obtain _ | ⟨x,l⟩:=l;· exact amQb _
  · exact absurd (h x (by simp)) (by omega)
 | succ n o=>
  intro l d h;have := o (l.erase n) (d.erase n) (fun x q => by
   have h1 := (d.mem_erase_iff).1 q;have h2 := h x h1.2;have h3 := h1.1
   omega)
  rw [List.length_erase]at this;split at this <;> omega
theorem xA{a b:Nat}(d:a<256)(o:b<256)(h:UInt8.ofNat a=UInt8.ofNat b):a=b:=by
 rw [<- nC a d,<- nC b o,h]
theorem xH{α β:Type}(f:α->β):∀ (l:List α),l.Nodup->(∀ x∈l,∀ y∈l,f x=f y->x=y)->(l.map f).Nodup:=by
 intro l
 induction l with
 | nil=>intro _ _;exact List.nodup_nil
 | cons x l q=>intro d h;rw [gTQb,ry];refine⟨fun z=>?_,q (ry.1 d).2 (fun a A b B=>h a (by simp [A]) b (by simp [B]))⟩;obtain⟨y,o,e⟩:=g6Qb.1 z;have:=h y (by simp [o]) x (by simp) e;subst this;exact(ry.1 d).1 o
theorem FJ(k m:Nat)(av:k+m<=255)(o:Nat->Nat)(M:∀ r s,r<s->s<k->o r<o s)(U:∀ r,r<k->o r<k+m):pX (fun r j=>lm k (o r) j) k:=by
 intro v O
 apply tA
 intro V
 obtain⟨X,Z⟩:=Classical.not_forall.1 V
 obtain⟨aa,ab⟩:=Classical.not_imp.1 Z
 have ac:∀ r,r<k->∀ s,s<k->o r=o s->r=s:=by
  intro r d s J e
  rcases nX r s with h | h | h
  · have:=M r s h J;omega
  · exact h
  · have:=M s r h d;omega
 -- those that are lost are not among the places
 have aj:∀ r,r<k->o r<k->v (o r)=0:=by
  intro r d A
  have:=O r d
  unfold dJ at this
  rw [vM k (o r) _ A]at this
  · simpa [lm,A,rV] using this
  · intro j _ he
    simp [lm,A,fy he,qq]
 let Y:=(List.range k).filter fun j=>v j != 0
 let T:=(List.range k).map o
 have Q:Y.Nodup:=List.nodup_range.filter _
 have R:T.Nodup:=xH _ _ List.nodup_range (fun r d s J e=>ac r (eD.1 d) s (eD.1 J) e)
 have ap:Y.length<=(T.filter fun t=>decide (k<=t)).length:=by
  have h1:(Y++T.filter fun t=>decide (t<k)).length<=k:=by
   refine Lt k _ ?_ ?_
   · rw [List.nodup_append]
     refine⟨Q,R.filter _,fun a B b D e=>?_⟩
     subst e
     obtain⟨z,A⟩:=lU.1 D
     obtain⟨r,d,rfl⟩:=g6Qb.1 z
     have K:=aj r (eD.1 d) (by simpa using A)
     have:=(lU.1 B).2
     rw [K]at this
     simp at this
   · intro x F
     rcases iZ.1 F with h | h
     · exact eD.1 (lU.1 h).1
     · simpa using (lU.1 h).2
  have h2:=List.length_eq_countP_add_countP (fun t=>decide (t<k)) (l:=T)
  rw [aDQb]at h1
  have h3:T.length=k:=by simp [T]
  rw [List.countP_eq_length_filter,List.countP_eq_length_filter]at h2
  have h4:(T.filter fun a=>decide (¬(decide (a<k)=true)))=T.filter fun t=>decide (k<=t):=by
   refine List.filter_congr fun x _=>?_
   simp
  rw [h4]at h2
  omega
 have G:∀ j∈Y,j<k/\v j≠0:=fun j q=>⟨eD.1 (lU.1 q).1,by simpa using (lU.1 q).2⟩
 have I:∀ t∈T.filter (fun t=>decide (k<=t)),∃ r,r<k/\t=o r/\k<=t/\t<k+m:=by
  intro t z
  obtain⟨h1,h2⟩:=lU.1 z
  obtain⟨r,d,rfl⟩:=g6Qb.1 h1
  exact⟨r,eD.1 d,rfl,by simpa using h2,U r (eD.1 d)⟩
 refine P9 (Y.map UInt8.ofNat) ((T.filter fun t=>decide (k<=t)).map UInt8.ofNat) (fun y=>v y.toNat) ?_ ?_ ?_ ?_ ?_ ?_ ?_
 · intro e
   have:X∈Y:=lU.2 ⟨eD.2 aa,by simpa using ab⟩
   rw [List.map_eq_nil_iff]at e
   rw [e]at this
   simp at this
 · simpa using ap
 · exact xH _ _ Q fun a B b D e=>xA (by have:=(G a B).1;omega) (by have:=(G b D).1;omega) e
 · exact xH _ _ (R.filter _) fun a B b D e=>by
     obtain⟨_,_,_,_,h1⟩:=I a B
     obtain⟨_,_,_,_,h2⟩:=I b D
     exact xA (by omega) (by omega) e
 · intro x F L
   obtain⟨t,z,rfl⟩:=g6Qb.1 F
   obtain⟨j,q,e⟩:=g6Qb.1 L
   obtain⟨_,_,_,K,h1⟩:=I t z
   have:=(G j q).1
   have:=xA (by omega) (by omega) e
   omega
 · intro y L
   obtain⟨j,q,rfl⟩:=g6Qb.1 L
   have:=G j q
   rw [nC j (by omega)]
   exact this.2
 · intro x F
   obtain⟨t,z,rfl⟩:=g6Qb.1 F
   obtain⟨r,d,rfl,K,h1⟩:=I t z
   have h2:=O r d
   unfold dJ at h2
   rw [Fv, Fq _ _ (fun j => v j != 0) (fun j _ q => by
    have : v j = 0 := by simpa using q
    rw [this, lG])] at h2
   rw [nZQb,<- h2]
   congr 1
   refine jA fun j q=>?_
   have a0:=G j q
   simp only [Function.comp]
   rw [nC j (by omega),oC]
   congr 1
   rw [lm,ae (by omega),UInt8.ofNat_xor]
def aN(C:Nat)(f:Nat->Nat->UInt8)(n:Nat):List UInt8:=(List.range n).map fun t=>f (t / C) (t % C)
theorem eh(C:Nat)(f:Nat->Nat->UInt8)(n:Nat):(aN C f n).length=n:=by simp [aN]
theorem qY(C i j:Nat)(d:j<C):(i*C+j) / C=i:=by
 rw [gw,Nat.mul_add_div (by omega),tj d,et]
theorem qK(C i j:Nat)(d:j<C):(i*C+j) % C=j:=by
 rw [gw,Nat.mul_add_mod,oU d]
theorem Bu(C:Nat)(f:Nat->Nat->UInt8)(i j:Nat)(d:j<C):aN C f (i*C+(j+1))=aN C f (i*C+j)++[f i j]:=by
 rw [<- rx];unfold aN;rw [lf,gp,gTQb,qiQb,qY C i j d,qK C i j d]
theorem Bv(C:Nat)(f:Nat->Nat->UInt8)(i:Nat):aN C f ((i+1)*C+0)=aN C f (i*C+C):=by rw [bUQb];simp
theorem ug(C:Nat)(f g:Nat->Nat->UInt8)(n:Nat)(h:∀ t,t<n->f (t / C) (t % C)=g (t / C) (t % C)):aN C f n=aN C g n:=by
 unfold aN;exact jA fun t d=>h t (eD.1 d)
theorem JW(C:Nat)(f:Nat->Nat->UInt8)(n t:Nat)(h:t<n):(aN C f n).getD t 0=f (t / C) (t % C):=by
 rw [cZ _ _ _ (by rw [eh];exact h)];simp [aN]
theorem uh(C:Nat)(f:Nat->Nat->UInt8)(R i j:Nat)(h:i<R)(d:j<C):(aN C f (R*C)).getD (i*C+j) 0=f i j:=by
 have:i*C+j<R*C:=by have:=dmQb C (show i+1<=R by omega);rw [bUQb]at this;omega
 rw [JW _ _ _ _ this,qY C i j d,qK C i j d]
def iM(C:Nat)(f:Nat->Nat->UInt8)(i:Nat):List UInt8:=(List.range C).map (f i)
theorem qC(C:Nat)(f:Nat->Nat->UInt8)(i:Nat):(iM C f i).length=C:=by simp [iM]
theorem rU(C:Nat)(f:Nat->Nat->UInt8)(R i:Nat)(h:i<R):(((aN C f (R*C)).take ((i+1)*C)).drop (i*C))=iM C f i:=by
  have h1:(i+1)*C=i*C+C:=(by rw [bUQb];omega);have h2:i*C+C<=R*C:=(by have:=dmQb C (show i+1<=R by omega);omega);apply lj;· rw [aU,aG,eh,qC];omega
  · intro j o d;rw [qC]at d;simp only [vB,oV,aN,iM,jY,mE];rw [qY C i j d,qK C i j d]
def gX(f:Nat->Nat->UInt8)(i:Nat)(g:Nat->UInt8):Nat->Nat->UInt8:=fun r j=>if r=i then g j else f r j
theorem xf(C:Nat)(f:Nat->Nat->UInt8)(R i:Nat)(A:i<R)(g:Nat->UInt8):(aN C f (R*C)).take (i*C)++((List.range C).map g++(aN C f (R*C)).drop (i*C+C))=aN C (gX f i g) (R*C):=by
 have h2:i*C+C<=R*C:=by have:=dmQb C (show i+1<=R by omega);rw [bUQb]at this;omega
 apply lj;· simp only [aDQb,aG,aU,eh,eN,mD];omega
 · intro t B d;rw [eh]at d;by_cases h:t<i*C;· rw [of (by rw [aG,eh];omega)];simp only [oV,aN,jY,mE,gX];have:t / C<i:=(nY (by rcases jU C with e | e;(subst e;simp at h);exact e)).2 h;rw [ae (by omega)]
   · rw [nu (by rw [aG,eh];omega)];by_cases h1:t<i*C+C;· rw [of (by simp only [aG,eh,eN,mD];omega)];simp only [aG,jY,mE,aN,gX];have o:t / C=i:=(by have:=qY C i (t - i*C) (by omega);rw [show i*C+(t - i*C)=t by omega]at this;exact this);have q:t % C=t - i*C:=(by have:=qK C i (t - i*C) (by omega);rw [show i*C+(t - i*C)=t by omega]at this;exact this);rw [agQb o,q];congr 1;rw [eN,mD];omega
     · rw [nu (by simp only [aG,eh,eN,mD];omega)];simp only [vB,aG,eN,mD,aN,jY,mE,gX];have hC:0<C:=by
        rcases jU C with e | e;· subst e;simp at d
        · exact e
       have z:i*C+C+(t - min (i*C) (R*C) - C)=t:=(by omega);rw [z,ae];intro e;have:=(nY hC (x:=t) (y:=i+1)).1 (by omega);rw [bUQb]at this;omega
theorem JV(C:Nat)(f:Nat->Nat->UInt8)(n i j:Nat)(d:j<C)(x:UInt8):(aN C f n).set (i*C+j) x=aN C (fun r c=>if r=i/\c=j then x else f r c) n:=by
 apply lj;· rw [lV,eh,eh]
 · intro t h1 h2;rw [eh]at h2;by_cases e:t=i*C+j;· subst e;rw [List.getElem_set_self];simp only [aN,jY,mE];rw [qY C i j d,qK C i j d,agQb ⟨rfl,rfl⟩]
   · rw [List.getElem_set_ne (fun h=>e h.symm)];simp only [aN,jY,mE];rw [ae];rintro⟨h3,h4⟩;have:=tp t C;rw [h3,h4,gw]at this;exact e this.symm
theorem QF(l b:List UInt8)(c:UInt8):gQ l c.toNat b=l.zipWith (fun x y=>x ^^^ aP c y) b:=by
 unfold gQ;congr 1;funext x y;exact eA.1 (by rw [UInt8.toNat_xor,kO,nC _ (jz (n:=8) x.toNat_lt (mT _ _ c.toNat_lt))])
theorem QC(n:Nat)(f:Nat->Nat->UInt8)(i k:Nat)(c:UInt8):gQ (iM n f i) c.toNat (iM n f k)=(List.range n).map fun j=>f i j ^^^ aP c (f k j):=by
 rw [QF];unfold iM;apply lj;· simp
 · intro t h1 h2;simp
theorem JM(f:Nat->Nat->UInt8)(i j:Nat):gX (gX f i (f j)) j (f i)=fT f i j:=by
 funext r c;unfold gX fT;by_cases h1:r=j
 · subst h1;by_cases h2:r=i;· subst h2;simp
   · simp [h2]
 · by_cases h2:r=i;· subst h2;simp [h1]
   · simp [h1,h2]
def js(M:List UInt8)(C:Nat):Nat->Nat->UInt8:=fun r j=>M.getD (r*C+j) 0
theorem Bw(M:List UInt8)(C R:Nat)(h:M.length=R*C):aN C (js M C) (R*C)=M:=by
 apply lj;· rw [eh,h]
 · intro t h1 h2;simp only [aN,jY,mE,js];rw [gw,tp,cZ _ _ _ h2]
def i9(i j:Nat):UInt8:=if i=j then 1 else 0
def eK(n:Nat):List UInt8:=aN n i9 (n*n)
def f8(k m:Nat):List UInt8:=aN k (lm k) ((k+m)*k)
def dw(M:List UInt8)(C:Nat)(d:List Nat):List UInt8:=(d.map fun r=>(M.take ((r+1)*C)).drop (r*C)).flatten
theorem B1(k m:Nat)(d:List Nat)(h:∀ r∈d,r<k+m):dw (f8 k m) k d=aN k (fun r j=>lm k (d.getD r 0) j) (d.length*k):=by
 have key:∀ n,n<=d.length->dw (f8 k m) k (d.take n)=aN k (fun r j=>lm k (d.getD r 0) j) (n*k):=by
  intro n
  induction n with
  | zero=>intro _;simp [dw,aN]
  | succ n q=>intro B;have z:d.take (n+1)=d.take n++[d[n]]:=(by rw [List.take_add_one,bE (by omega)];rfl);have A:dw (f8 k m) k (d.take n++[d[n]])=dw (f8 k m) k (d.take n)++((f8 k m).take ((d[n]+1)*k)).drop (d[n]*k):=(by unfold dw;rw [gp,rA,gTQb,qiQb,List.flatten_cons,List.flatten_nil,gq]);rw [z,A,q (by omega),f8,rU k (lm k) (k+m) _ (h _ (bX _))];unfold aN iM;rw [bUQb,j8Qb,List.range_add,gp,nZQb];congr 1;refine jA fun j o=>?_;have o:=eD.1 o;simp only [Function.comp];rw [qY k n j o,qK k n j o,cZ _ _ _ (by omega)]
 have:=key d.length (amQb _);rwa [eC (amQb _)]at this
def CF(M:List UInt8)(n:Nat):Nat->Nat->UInt8:=fun r j=>ix (eo (js M n) n) n n r (n+j)
def nG(M:List UInt8)(n:Nat):List UInt8:=aN n (CF M n) (n*n)
def EK(M:List UInt8)(n:Nat):Prop:=∀ i,i<n->nS (ix (eo (js M n) n) n i) n i
def rp(d:List Nat)(n:Nat):Prop:=(∀ r s,r<s->s<d.length->d.getD r 0<d.getD s 0)/\∀ r∈d,r<n
theorem Km(k m:Nat)(q:k+m<=255)(d:List Nat)(z:d.length=k)(h:rp d (k+m)):EK (dw (f8 k m) k d) k:=by
 intro i A;refine Nu _ k (Qs _ k (Nw _ _ k (FJ k m q (fun r=>d.getD r 0) (fun r s h1 h2=>h.1 r s h1 (by omega)) fun r o=>?_) fun r o j B=>?_)) i A;· rw [cZ _ _ _ (by omega)];exact h.2 _ (bX _)
 · rw [B1 k m d h.2,z];exact uh k _ k r j o B
theorem Jv(d:List Nat)(n:Nat)(h:rp d n):∀ r,r<d.length->r<=d.getD r 0:=by
 intro r
 induction r with
 | zero=>intro _;omega
 | succ r o=>intro q;have h1:=o (by omega);have h2:=h.1 r (r+1) (by omega) q;omega
theorem Jw(o:List Nat)(n:Nat)(h:rp o n)(B:0<o.length)(z:o.getD (o.length - 1) 0=o.length - 1):∀ r,r<o.length->o.getD r 0=r:=by
 have key:∀ d r,r+d=o.length - 1->o.getD r 0=r:=by
  intro d
  induction d with
  | zero=>intro r q;rw [et]at q;rw [q];exact z
  | succ d A=>intro r q;have h1:=A (r+1) (by omega);have h2:=h.1 r (r+1) (by omega) (by omega);have h3:=Jv o n h r (by omega);omega
 intro r q;exact key (o.length - 1 - r) r (by omega)
theorem ME(k m:Nat)(d:List Nat)(D:d.length=k)(h:rp d (k+m))(F:∀ r,r<k->d.getD r 0=r):nG (dw (f8 k m) k d) k=eK k:=by
 unfold nG eK;refine ug k _ _ _ fun t z=>?_;have A:0<k:=by rcases jU k with e | e;(subst e;simp at z);exact e
 have o:t / k<k:=(nY A).2 z;have B:t % k<k:=kH _ A;unfold CF;rw [I3 _ k ?_ k (amQb _) _ o]
 · simp only [eo,i9,show ¬k+t % k<k by omega,if_false];have e:k+t % k - k=t % k:=(by omega);rw [e];by_cases q:t % k=t / k;· rw [agQb q,agQb q.symm]
   · rw [ae q,ae (fy q)]
 · intro r o j B;rw [B1 k m d h.2,D,js,uh k _ k r j o B,F r o,lm,agQb o]
theorem KO(y:Nat)(h:y<256):aJ 1 y=y:=by rw [BX 1 y (by omega) h];simpa using iD 256 _ BL y h
theorem Eu(l b:List UInt8)(L:Nat)(h1:l.length=L)(h2:b.length=L):gQ l (0:UInt8).toNat b=l:=by
 rw [UInt8.toNat_zero];exact Et l b (by rw [h1,h2])
theorem QD(b:List UInt8)(L:Nat)(h2:b.length=L):gQ (List.replicate L 0) (1:UInt8).toNat b=b:=by
 rw [UInt8.toNat_one];apply lj;· rw [gQ,List.length_zipWith,jX,h2,Nat.min_self]
 · intro t h1 h2;simp only [gQ,List.getElem_zipWith,List.getElem_replicate];rw [KO _ (kF _),UInt8.toNat_zero,Nat.zero_xor,UInt8.ofNat_toNat]
theorem Jk(n i:Nat)(d:List (List UInt8))(L:Nat)(o:i<n)(D:d.length=n)(A:∀ p∈d,p.length=L)(j:Nat)(F:j<=n):jf (eK n) n i d L j=if i<j then d.getD i []else List.replicate L 0:=by
 have z:∀ q,q<n->(d.getD q []).length=L:=fun q G=>by rw [cZ _ _ _ (by omega)];exact A _ (bX _)
 induction j with
 | zero=>rw [ae (by omega)];rfl
 | succ j B=>
  have h:=z j (by omega);rw [jf,B (by omega),eK,uh n i9 n i j o (by omega),i9];by_cases e:i=j;· subst e;rw [agQb rfl,ae (by omega),agQb (by omega)];exact QD _ L h
  · rw [ae e];by_cases h2:i<j;· rw [agQb h2,agQb (by omega)];exact Eu _ _ L (z i o) h
    · rw [ae h2,ae (by omega)];exact Eu _ _ L (by simp) h
theorem GQ(d:List (List UInt8))(L:Nat)(h:∀ p∈d,p.length=L):lq (eK d.length) d.length d.length d L=d:=by
 apply lj;· rw [tO]
 · intro i h1 h2;rw [Af _ _ _ _ _ i h2,Jk _ i d L h2 rfl h _ (amQb _),agQb h2,cZ _ _ _ h2]
def kT(k m c:Nat)(d:List Nat)(l:List (List UInt8)):List (List UInt8):=lq (nG (dw (f8 k m) k d) k) k k l c
theorem Dt(k m c:Nat)(d:List Nat)(l:List (List UInt8)):(kT k m c d l).length=k:=tO _ _ _ _ _
theorem OJ(k m c:Nat)(d:List Nat)(l:List (List UInt8))(o:d.length=k)(q:l.length=k)(h:rp d (k+m))(z:∀ p∈l,p.length=c)(A:∀ r,r<k->d.getD r 0=r):kT k m c d l=l:=by
 unfold kT;rw [ME k m d o h A,<- q];exact GQ l c z
theorem yp(k m c:Nat)(d:List Nat)(l:List (List UInt8))(q:l.length=k)(h:∀ p∈l,p.length=c):∀ p∈kT k m c d l,p.length=c:=by
 intro p o;obtain⟨i,_,rfl⟩:=g6Qb.1 o;exact wF _ _ _ _ _ _ h (by omega)
end Go.Fk
