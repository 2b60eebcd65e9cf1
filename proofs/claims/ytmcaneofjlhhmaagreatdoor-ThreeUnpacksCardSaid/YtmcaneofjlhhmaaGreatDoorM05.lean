/- Lemmas. -/
set_option linter.all false
set_option maxHeartbeats 8000000
namespace Go.Fk
abbrev U0₁:=List UInt8
def ω₁{p:Prop}(h:p:=by omega):p:=h
def δ{p:Prop}(h:p:=by decide):p:=h
def σ₁{p:Prop}(h:p:=by simp):p:=h
abbrev ae:=@if_neg
abbrev arQb:=@Nat.le_trans
abbrev aMQb:=@List.length_append
abbrev auQb:=@Nat.le_refl
abbrev axQb:=@Nat.zero_le
abbrev anQb:=@if_pos
abbrev aP:=@List.length_take
abbrev bn:=@List.length_drop
abbrev cQ:=@List.getElem?_eq_getElem
abbrev ea:=@List.take_succ_eq_append_getElem
abbrev bw:=@decide_eq_false
abbrev boQb:=@Nat.mul_le_mul
abbrev cY:=@Nat.mul_le_mul_right
abbrev dn:=@Nat.pow_le_pow_right
abbrev co:=@List.getElem_mem
abbrev fx:=@List.getD_eq_getElem?_getD
abbrev dPQb:=@List.take_length
abbrev bPQb:=@Nat.add_mul
abbrev iy:=@List.getElem_append_left
abbrev fw:=@List.length_map
abbrev fO:=@UInt8.toNat_inj
abbrev gq:=@List.map_append
abbrev gFQb:=@List.length_cons
abbrev ix:=@Nat.xor_lt_two_pow
abbrev kM:=@List.getElem_append_right
abbrev jCQb:=@List.take_append_drop
abbrev jF:=@List.length_replicate
abbrev jH:=@List.getElem?_eq_none
abbrev jkQb:=@Nat.lt_of_lt_of_le
abbrev iU:=@decide_eq_true_eq
abbrev g7:=@Nat.mul_comm
abbrev g8:=@Nat.add_zero
abbrev im:=@List.mem_range
abbrev glQb:=@Nat.one_mul
abbrev iI:=@List.mem_append
abbrev iJ:=@List.append_nil
abbrev gE:=@Nat.pow_succ
abbrev jm:=@List.getElem_map
abbrev iH:=@UInt8.toNat_lt
abbrev jI:=@List.ext_getElem
abbrev kJ:=@Nat.eq_zero_or_pos
abbrev jD:=@List.range_succ
abbrev lk:=@UInt8.toNat_ofNat'
abbrev lq:=@List.getElem_range
abbrev lP:=@List.map_congr_left
abbrev kf:=@Nat.min_eq_left
abbrev pF:=@Classical.byContradiction
abbrev lm:=@Nat.two_pow_pos
abbrev lR:=@List.cons_append
abbrev lS:=@Bool.and_eq_true
abbrev jEQb:=@List.mem_map
abbrev kLQb:=@List.map_cons
abbrev jZQb:=@Nat.zero_add
abbrev m7:=@Nat.mod_eq_of_lt
abbrev n5:=@List.getElem_take
abbrev pB:=@Nat.div_lt_iff_lt_mul
abbrev mC:=@List.sum_append
abbrev jB:=@Nat.mod_lt
abbrev ot:=@List.length_range
abbrev nu:=@List.mem_filter
abbrev nz:=@List.length_set
abbrev oh:=@Nat.div_eq_of_lt
abbrev iGQb:=@congrArg
abbrev pD:=@List.getElem_drop
abbrev qP:=@List.flatten_append
abbrev sF:=@Nat.div_div_eq_div_mul
abbrev qK:=@List.take_add_one
abbrev nyQb:=@List.map_map
abbrev qO:=@List.foldl_append
abbrev pA:=@UInt8.xor_zero
abbrev jh:=@if_true
abbrev jj:=@Ne.symm
abbrev qG:=@UInt8.xor_self
abbrev uZ:=@List.mem_cons_of_mem
abbrev ve:=@List.getElem_set_ne
abbrev qJ:=@Nat.add_assoc
abbrev qL:=@List.sum_cons
abbrev sH:=@Nat.div_add_mod
abbrev uY:=@List.mem_cons_self
abbrev vh:=@List.filter_append
abbrev qNQb:=@List.map_nil
abbrev vf:=@List.flatten_cons
abbrev zr:=@Nat.le_div_iff_mul_le
abbrev uS:=@UInt8.toNat_zero
abbrev vg:=@List.filter_cons
abbrev uR:=@UInt8.xor_assoc
abbrev uT:=@Nat.mul_add_div
def fo(a:Nat):Nat:=if a<128 then 2*a else(2*a-256) ^^^ 29
def kX:Nat->Nat->Nat->Nat->Nat
 | 0,_,_,o=>o
 | f+1,a,b,o=>if b=0 then o else kX f (fo a) (b / 2) (if b%2=1 then o ^^^ a else o)
def aO(a b:Nat):Nat:=kX 8 a b 0
def ko(a b:Nat):Nat->Nat->Nat
 | 0,p=>p
 | f+1,p=>ko a b f (if b / 2^(7-f)%2=1 then p ^^^ (a*2^(7-f))else p)
def gx:Nat->Nat->Nat
 | 0,p=>p
 | f+1,p=>gx f (if p / 2^(f+8)%2=1 then p ^^^ (285*2^f)else p)
def xB(a b:Nat):Nat:=gx 7 (ko a b 8 0)
def lB:Nat->Nat->Nat->Nat->Nat
 | 0,_,_,o=>o
 | f+1,a,n,o=>if n=0 then o else lB f (aO a a) (n / 2) (if n%2=1 then aO o a else o)
def iB(a:Nat):Nat:=lB 8 a 254 1
def iF(n:Nat)(p:Nat->Bool):Bool:=
 match n with
 | 0=>true
 | n+1=>p n && iF n p
def iR(n:Nat)(p:Nat->Bool)(h:iF n p=true):∀i,i<n->p i=true:=by
 induction n with
 | zero=>intro i d;omega
 | succ n o=>rw[iF,lS]at h;grind
def dw:Nat->Nat->Nat->Nat
 | 0,_,_=>0
 | f+1,a,b=>(if b%2=1 then a else 0) ^^^ dw f (fo a) (b / 2)
def td(f:Nat):∀a,dw f a 0=0:=by
 induction f with
 | zero=>intro a;rfl
 | succ f d=>intro a;simp[dw,d]
def Kl(f:Nat):∀a b o,kX f a b o=o ^^^ dw f a b:=by
 induction f with
 | zero=>intro a b o;simp[kX,dw]
 | succ f d=>
  intro a b o;rw[kX,dw];by_cases h:b=0;·subst h;simp[td]
  ·grind
def jM(a b:Nat):aO a b=dw 8 a b:=by unfold aO;rw[Kl];simp
def yJ(p q k:Nat):((p ^^^ q) / 2^k%2=1)↔¬((p / 2^k%2=1)↔(q / 2^k%2=1)):=by
 have h:=Nat.testBit_xor p q k;grind
def vw(a b c d:Nat):(a ^^^ b) ^^^ (c ^^^ d)=(a ^^^ c) ^^^ (b ^^^ d):=by
 grind
def Lm(p q k c:Nat):(if(p ^^^ q) / 2^k%2=1 then(p ^^^ q) ^^^ c else p ^^^ q)=(if p / 2^k%2=1 then p ^^^ c else p) ^^^ (if q / 2^k%2=1 then q ^^^ c else q):=by
 have h:=yJ p q k;grind
def Bq(f:Nat):∀p q,gx f (p ^^^ q)=gx f p ^^^ gx f q:=by
 induction f with
 | zero=>intro p q;rfl
 | succ f d=>intro p q;rw[gx,gx,gx,Lm,d]
def IK(f:Nat):gx f 0=0:=by
 induction f with
 | zero=>rfl
 | succ f d=>rw[gx];simp[d]
def lx:Nat->Nat->Nat
 | 0,a=>a
 | n+1,a=>lx n (fo a)
def IQ:iF 256 (λa=>iF 8 λi=>gx 7 (a*2^i) == lx i a && decide (lx i a<256))=true:=by decide +kernel
def Bt(a i:Nat)(d:a<256)(h:i<8):gx 7 (a*2^i)=lx i a/\lx i a<256:=by
 have:=iR 8 _ (iR 256 _ IQ a d) i h;simpa using this
def IN(c:Prop)[Decidable c](p x:Nat):gx 7 (if c then p ^^^ x else p)=gx 7 p ^^^ (if c then gx 7 x else 0):=by
 by_cases h:c;·simp[h,Bq]
 ·simp[h]
def Jw(a b:Nat)(d:a<256):∀(f:Nat),f<=8->∀p,gx 7 (ko a b f p)=gx 7 p ^^^ dw f (lx (8-f) a) (b / 2^(8-f)):=by
 intro f
 induction f with
 | zero=>intro _ p;simp[ko,dw]
 | succ f h=>
  intro D p;rw[ko,h ω₁,IN,(Bt a (7-f) d ω₁).1,dw];have o:8-(f+1)=7-f:=ω₁;have q:8-f=(7-f)+1:=ω₁;have z:∀n a,lx (n+1) a=fo (lx n a):=by
   intro n
   induction n with
   | zero=>intro a;rfl
   | succ n A=>intro a;rw[lx,A,lx]
  rw[o,q,z,gE,sF,Nat.xor_assoc]
def Kk(a b:Nat)(d:a<256):xB a b=aO a b:=by
 have:=Jw a b d 8 (auQb _) 0;unfold xB;rw[this,IK,jM];simp[lx]
def Gy:iF 256 (λa=>decide (fo a<256))=true:=by decide +kernel
def o0(a:Nat)(d:a<256):fo a<256:=by have:=iR 256 _ Gy a d;simpa using this
def Ay(f:Nat):∀a b,a<256->dw f a b<256:=by
 induction f with
 | zero=>intro a b _;simp[dw]
 | succ f d=>intro a b h;rw[dw];have h1:(if b%2=1 then a else 0)<2^8:=(by split <;> omega);have h2:dw f (fo a) (b / 2)<2^8:=d _ _ (o0 a h);exact ix h1 h2
def kp(a b:Nat)(d:a<256):aO a b<256:=by rw[jM];exact Ay 8 a b d
def Hr(f:Nat):∀a b c,dw f a (b ^^^ c)=dw f a b ^^^ dw f a c:=by
 induction f with
 | zero=>intro a b c;simp[dw]
 | succ f d=>intro a b c;rw[dw,dw,dw,Nat.xor_div_two,d,vw];congr 1;have h:=yJ b c 0;grind
def nK(a b c:Nat):aO a (b ^^^ c)=aO a b ^^^ aO a c:=by rw[jM,jM,jM,Hr]
def vJ(a:Nat)(d:a<256):fo a=gx 7 (a*2):=(Bt a 1 d ω₁).1.symm
def zY(p q:Nat)(d:p<256)(h:q<256):fo (p ^^^ q)=fo p ^^^ fo q:=by
 have o:p ^^^ q<2^8:=ix d h;rw[vJ _ o,vJ p d,vJ q h,<- Bq];congr 1;have:=Nat.shiftLeft_xor_distrib (a:=p) (b:=q) (i:=1);simpa [Nat.shiftLeft_eq] using this
def Ht(f:Nat):∀a b,a<256->dw f (fo a) b=fo (dw f a b):=by
 induction f with
 | zero=>intro a b _;rfl
 | succ f h=>intro a b d;have h1:(if b%2=1 then a else 0)<256:=(by split <;> omega);rw[dw,dw,zY _ _ h1 (Ay f _ _ (o0 a d)),h _ _ (o0 a d)];congr 1;split <;> rfl
def Hu(f:Nat):∀a c,c<2^f->dw (f+1) a c=dw f a c:=by
 induction f with
 | zero => intro a c h; have : c = 0 := by omega
           subst this;simp[dw]
 | succ f d=>intro a c h;have e:=d (fo a) (c / 2) (by rw[gE]at h;omega);show(if c%2=1 then a else 0) ^^^ dw (f+1) (fo a) (c / 2)=(if c%2=1 then a else 0) ^^^ dw f (fo a) (c / 2);rw[e]
def Ki(a b:Nat)(d:a<256)(h:b<256):aO a b=fo (aO a (b / 2)) ^^^ (if b%2=1 then a else 0):=by
 rw[jM,jM,Hu 7 a (b / 2) ω₁,dw,Ht 7 a _ d,Nat.xor_comm]
def Lh:iF 256 (λa=>a == 0 || (decide (iB a<256) && aO a (iB a) == 1 && iF 8 λk=>aO (iB a) (aO a (2^k)) == 2^k))=true:=by decide +kernel
def rT(a:Nat)(p:a≠0)(d:a<256):iB a<256/\aO a (iB a)=1/\∀k,k<8->aO (iB a) (aO a (2^k))=2^k:=by
 have:=iR 256 _ Lh a d;simp only[Bool.or_eq_true,lS,beq_iff_eq,iU]at this;rcases this with h | ⟨⟨h1,h2⟩,h3⟩;·omega
 ·exact⟨h1,h2,λk o=>by simpa using iR 8 _ h3 k o⟩
def jd(i k:Nat):Nat:=if i / 2^k%2=1 then 2^k else 0
def nh(i:Nat):Nat:=jd i 0 ^^^ (jd i 1 ^^^ (jd i 2 ^^^ (jd i 3 ^^^ (jd i 4 ^^^ (jd i 5 ^^^ (jd i 6 ^^^ jd i 7))))))
def Et:iF 256 (λi=>nh i == i)=true:=by decide +kernel
def KM(f:Nat->Nat)(o:∀p q,f (p ^^^ q)=f p ^^^ f q)(z:f 0=0)(A:∀k,k<8->f (2^k)=2^k)(i:Nat)(d:i<256):f i=i:=by
 have e:nh i=i:=by simpa using iR 256 _ Et i d
 have D:∀k,k<8->f (jd i k)=jd i k:=by intro k h;unfold jd;grind
 have:f (nh i)=nh i:=by unfold nh;grind
 grind
def Le(a i:Nat)(d:a≠0)(o:a<256)(A:i<256)(h:aO a i=1):i=iB a:=by
 obtain⟨h1,h2,h3⟩:=rT a d o;have key:∀j,j<256->aO (iB a) (aO a j)=j:=λj z=>KM (λj=>aO (iB a) (aO a j)) (λp q=>by simp only[nK]) (by show aO _ (aO a 0)=0;rw[jM a 0,td,jM,td]) h3 j z;grind
def xy(a:Nat):aO a 0=0:=by rw[jM,td]
def Hv(f:Nat):∀b,dw f 0 b=0:=by
 induction f with
 | zero=>intro b;rfl
 | succ f d=>intro b;rw[dw,show fo 0=0 from rfl,d];simp
def xr(b:Nat):aO 0 b=0:=by rw[jM,Hv]
def Lf(a:Nat)(d:a≠0)(o:a<256):1<=iB a:=by
 have:=(rT a d o).2.1;rcases kJ (iB a)with h | h;·rw[h,xy]at this;cases this
 ·exact h
def bE(x:Nat):U0₁:=if h:x<128 then [UInt8.ofNat x]else UInt8.ofNat (128+x%128)::bE (x / 128)
termination_by x
def xk(x:Nat)(h:x<128):bE x=[UInt8.ofNat x]:=by rw[bE,dif_pos h]
def Cj(x:Nat)(h:¬x<128):bE x=UInt8.ofNat (128+x%128)::bE (x / 128):=by rw[bE,dif_neg h]
def Ke(k:Nat):∀x,x<128^(k+1)->(bE x).length<=k+1:=by
 induction k with
 | zero=>intro x h;rw[xk x ω₁];simp
 | succ k d=>
  intro x h;by_cases h1:x<128;·rw[xk x h1];simp
  ·rw[Cj x h1];have:=d (x / 128) (by rw[gE]at h;exact Nat.div_lt_of_lt_mul (by rw[g7];exact h));simp;omega
def lH(x:Nat)(h:x<18446744073709551616):(bE x).length<=10:=
 Ke 9 x (jkQb h δ)
def sX(s:U0₁):U0₁:=bE s.length++s
def eH:Nat->Nat->U0₁
 | 0,_=>[]
 | n+1,x=>UInt8.ofNat (x%256)::eH n (x / 256)
def oZ(n:Nat):∀x,(eH n x).length=n:=by
 induction n with
 | zero=>intro x;rfl
 | succ n d=>intro x;simp[eH,d]
def LU(n:Nat):∀(x i:Nat) (h:i<n),(eH n x)[i]'(by rw[oZ];exact h)=UInt8.ofNat (x / 256^i%256):=by
 induction n with
 | zero=>intro x i h;omega
 | succ n d=>
  intro x i h
  cases i with
  | zero=>simp[eH]
  | succ i=>have:=d (x / 256) i ω₁;simp only[eH,List.getElem_cons_succ];rw[this,sF,gE,g7]
def FB(d:Nat):Nat:=if d<9223372036854775808 then 2*d else 2*(18446744073709551615-d)+1
def dK(x:Nat):Nat:=if x%2=1 then(x / 2) ^^^ 3988292384 else x / 2
def qm(x c:Nat):Nat:=dK (dK (dK (dK (dK (dK (dK (dK (x ^^^ c))))))))
def ei(x:Nat)(l:U0₁):Nat:=l.foldl (λx c=>qm x c.toNat) x
def gH(l:U0₁):Nat:=4294967295-ei 4294967295 l
def jp(i:Nat):Nat:=dK (dK (dK (dK i)))
def uB(a b:Nat):dK (a ^^^ b)=dK a ^^^ dK b:=by
 have h:=yJ a b 0;simp only[Nat.pow_zero,Nat.div_one]at h;unfold dK;rw[Nat.xor_div_two];by_cases h1:a%2=1 <;> by_cases h2:b%2=1;·rw[ae (by rw[h];simp[h1,h2]),anQb h1,anQb h2,vw,Nat.xor_self,Nat.xor_zero]
 ·rw[anQb (by rw[h];simp[h1,h2]),anQb h1,ae h2,Nat.xor_assoc,Nat.xor_assoc,Nat.xor_comm (b / 2)]
 ·rw[anQb (by rw[h];simp[h1,h2]),ae h1,anQb h2,Nat.xor_assoc]
 ·rw[ae (by rw[h];simp[h1,h2]),ae h1,ae h2]
def kD(x:Nat)(h:x<4294967296):dK x<4294967296:=by
 unfold dK;have h1:x / 2<2^32:=ω₁
 split;·exact ix h1 δ
 ·omega
def Ic(x:Nat):x=(x / 16*16) ^^^ (x%16):=by
 apply Nat.eq_of_testBit_eq;intro j;rw[Nat.testBit_xor,show(16:Nat)=2^4 from rfl,Nat.testBit_mul_two_pow,Nat.testBit_mod_two_pow,Nat.testBit_div_two_pow];by_cases h:4<=j;·rw[show j-4+4=j by omega];simp[h];rw[bw (by omega:¬j<4)];simp
 ·simp[h];omega
def Am(x:Nat):dK (dK (dK (dK x)))=(x / 16) ^^^ jp (x%16):=by
 have e:dK (dK (dK (dK x)))=dK (dK (dK (dK ((x / 16*16) ^^^ (x%16))))):=by rw[<- Ic]
 rw[e,uB,uB,uB,uB];have h:∀y,dK (2*y)=y:=λy=>by unfold dK;rw[ae ω₁];omega
 rw[show x / 16*16=2*(2*(2*(2*(x / 16)))) by omega,h,h,h,h];rfl
def NB(x c:Nat):qm x c=((x ^^^ c) / 16 ^^^ jp ((x ^^^ c)%16)) / 16 ^^^ jp (((x ^^^ c) / 16 ^^^ jp ((x ^^^ c)%16))%16):=by
 unfold qm;rw[Am (x ^^^ c),Am]
def An(i:Nat)(h:i<16):jp i<4294967296:=kD _ (kD _ (kD _ (kD _ ω₁)))
def ND(x c:Nat)(d:x<4294967296)(h:c<256):qm x c<4294967296:=by
 have:x ^^^ c<2^32:=ix d ω₁;exact kD _ (kD _ (kD _ (kD _ (kD _ (kD _ (kD _ (kD _ this)))))))
def yp(l:U0₁):∀x,x<4294967296->ei x l<4294967296:=by
 induction l with
 | nil=>intro x h;exact h
 | cons c l d=>intro x h;exact d _ (ND x _ h c.toNat_lt)
def DS(x:Nat)(l:U0₁)(k:Nat)(h:k<l.length):ei x (l.take (k+1))=qm (ei x (l.take k)) (l[k]).toNat:=by
 unfold ei;rw[ea h,qO];rfl
def MU(x:Nat)(a b:U0₁):ei x (a++b)=ei (ei x a) b:=by unfold ei;rw[qO]
def bD(l:U0₁):U0₁:=l++[UInt8.ofNat (gH l%256),UInt8.ofNat (gH l / 256%256),UInt8.ofNat (gH l / 65536%256),UInt8.ofNat (gH l / 16777216%256)]
def vQ(l:U0₁):gH l<4294967296:=by unfold gH;omega
def ce{α:Type}(l:List α)(i:Nat)(d:α)(h:i<l.length):l.getD i d=l[i]:=by
 rw[fx,cQ h];rfl
def gT(d:U0₁)(c:Nat)(b:U0₁):U0₁:=d.zipWith (λx y=>UInt8.ofNat (x.toNat ^^^ aO c y.toNat)) b
def eD(M:U0₁)(C i:Nat)(d:List U0₁)(L:Nat):Nat->U0₁
 | 0=>List.replicate L 0
 | j+1=>gT (eD M C i d L j) (M.getD (i*C+j) 0).toNat (d.getD j [])
def jo(M:U0₁)(C R:Nat)(d:List U0₁)(L:Nat):List U0₁:=(List.range R).map λi=>eD M C i d L C
def oF(M:U0₁)(C i:Nat)(d:List U0₁)(L j:Nat)(h:∀p∈d,p.length=L)(q:j<=d.length):(eD M C i d L j).length=L:=by
 induction j with
 | zero=>simp[eD]
 | succ j o=>have h1:=o ω₁;have h2:(d.getD j []).length=L:=(by rw[fx,cQ ω₁];exact h _ (co _));rw[eD,gT,List.length_zipWith,h1,h2,Nat.min_self]
def rr(M:U0₁)(C R:Nat)(d:List U0₁)(L:Nat):(jo M C R d L).length=R:=by simp[jo]
def O5(d b:U0₁)(c:Nat)(h:d.length=b.length):(gT d c b).length=d.length:=by unfold gT;rw[List.length_zipWith];omega
def EF(l b:U0₁)(h:l.length=b.length):gT l 0 b=l:=by
 apply jI;·simp[gT,h]
 ·intro i h1 h2;simp[gT,xr]
def EI(l b:U0₁)(c i:Nat)(h1:i<l.length)(h2:i<b.length)(h3:i<(gT l c b).length):(gT l c b)[i]=UInt8.ofNat (l[i].toNat ^^^ aO c b[i].toNat):=by
 simp[gT]
def iE(M:U0₁)(C i:Nat)(d:List U0₁)(n:Nat):Nat->Nat
 | 0=>0
 | j+1=>iE M C i d n j ^^^ aO (M.getD (i*C+j) 0).toNat ((d.getD j []).getD n 0).toNat
def Ek(M:U0₁)(C i:Nat)(d:List U0₁)(n j:Nat):iE M C i d n j<256:=by
 induction j with
 | zero=>simp[iE]
 | succ j h=>exact ix (n:=8) h (kp _ _ (iH _))
def I5(M:U0₁)(C i:Nat)(d:List U0₁)(L n j:Nat)(h:∀p∈d,p.length=L)(o:j<=d.length)(q:n<L):(eD M C i d L j)[n]'(by rw[oF M C i d L j h o];exact q)=UInt8.ofNat (iE M C i d n j):=by
 induction j with
 | zero=>simp[eD,iE]
 | succ j z=>have h1:=z ω₁;have D:=oF M C i d L j h ω₁;have h2:(d.getD j []).length=L:=(by rw[fx,cQ ω₁];exact h _ (co _));have h3:(eD M C i d L (j+1))=gT (eD M C i d L j) (M.getD (i*C+j) 0).toNat (d.getD j []):=rfl;have h4:=EI (eD M C i d L j) (d.getD j []) (M.getD (i*C+j) 0).toNat n ω₁ ω₁ (by rw[<- h3,oF M C i d L (j+1) h o];exact q);simp only[h3];rw[h4,h1,iE];have A:(UInt8.ofNat (iE M C i d n j)).toNat=iE M C i d n j:=(by rw[lk];exact m7 (Ek M C i d n j));rw[A];rw[ce (d.getD j []) n 0 ω₁]
def vK(M:U0₁)(C R:Nat)(d:List U0₁)(L i:Nat)(o:i<R)(h:i<(jo M C R d L).length):(jo M C R d L)[i]=eD M C i d L C:=by
 simp[jo]
def sf(l:U0₁)(d n:Nat):U0₁:=(List.range n).map λi=>l.getD (d+i) 0
def yo(l:U0₁)(a n:Nat):(sf l a n).length=n:=by simp[sf]
def jL(l:U0₁)(c a k:Nat):List U0₁:=(List.range k).map λi=>sf l (a+i*c) c
def wN(l:U0₁)(c a k:Nat):(jL l c a k).length=k:=by simp[jL]
def rE(l:U0₁)(c a k:Nat):∀p∈jL l c a k,p.length=c:=by
 intro p d;simp only[jL,jEQb]at d;obtain⟨i,_,rfl⟩:=d;exact yo _ _ _
def gQ(d:List U0₁):U0₁:=(d.map bD).flatten
def Je(d:List U0₁)(p:U0₁):gQ (d++[p])=gQ d++bD p:=by simp[gQ]
def Jf(a b:List U0₁):gQ (a++b)=gQ a++gQ b:=by simp[gQ]
def nJ(p:U0₁):(bD p).length=p.length+4:=by simp[bD]
def wJ(d:List U0₁)(c:Nat)(h:∀p∈d,p.length=c):(gQ d).length=d.length*(c+4):=by
 induction d with
 | nil=>simp[gQ]
 | cons p d o=>have:gQ (p::d)=bD p++gQ d:=(by simp[gQ]);rw[this,aMQb,nJ,o (λq z=>h q (uZ _ z)),h p (uY ..),gFQb,bPQb];omega
def bQ(l:U0₁):Bool:=decide (4<=l.length) && decide (bD (l.take (l.length-4))=l)
def aY(l:U0₁):U0₁:=if bQ l then l.take (l.length-4)else []
def cM(l:U0₁):Nat:=if bQ l then 0 else if l.length<4 then 1 else 5
def MS(l:U0₁)(h:bQ l=true):(aY l).length=l.length-4:=by
 unfold aY;rw[anQb h,aP];omega
def eE(l:U0₁):Nat × Nat:=
 if l.length<=4 then(0,1)else if l.take 4=[70,73,82,75]then(if 1<=(l.getD 4 0).toNat/\(l.getD 4 0).toNat<=3 then((l.getD 4 0).toNat,0)else(0,4))else(0,3)
def it(l:U0₁):Bool:=bQ l && decide (eE l=(3,0))
def cd:U0₁->Nat
 | []=>0
 | b::l=>b.toNat+256*cd l
def KT(l:U0₁)(b:UInt8):cd (l++[b])=cd l+b.toNat*256^l.length:=by
 induction l with
 | nil=>simp[cd]
 | cons c l d=>rw[lR,cd,cd,d,gFQb,gE,Nat.mul_add,<- qJ];congr 1;rw[Nat.mul_left_comm,g7 256 (256^l.length)]
def lJ(l:U0₁):cd l<256^l.length:=by
 induction l with
 | nil=>simp[cd]
 | cons c l d=>have:=c.toNat_lt;rw[cd,gFQb,gE];omega
def tX(x b k:Nat)(h:x<2^k):x ||| (b*2^k)=x+b*2^k:=by
 have:=Nat.two_pow_add_eq_or_of_lt h b;rw[Nat.or_comm,g7 b,<- this,Nat.add_comm]
def KS(l:U0₁)(i:Nat)(h:i<l.length):cd (l.take (i+1))=cd (l.take i) ||| (l[i].toNat*2^(8*i)):=by
 have e:l.take (i+1)=l.take i++[l[i]]:=by rw[qK,cQ h];rfl
 have d:(l.take i).length=i:=by rw[aP];omega
 have o:(256:Nat)^i=2^(8*i):=by rw[Nat.pow_mul]
 have p:=lJ (l.take i);rw[d,o]at p;rw[e,KT,d,o,tX _ _ _ p]
def fq(i:Nat)(x:Nat):U0₁->Nat × Nat × Nat
 | []=>(0,0,1)
 | c::t=>if(i=9/\¬c.toNat=1)\/(0<i/\c.toNat=0)then(0,0,2)else if c.toNat<128 then(x+c.toNat%128*128^i,i+1,0)else fq (i+1) (x+c.toNat%128*128^i) t
def bN(l:U0₁):Nat × Nat × Nat:=fq 0 0 l
def xj(l:U0₁):∀(i x:Nat),i<=9->x<128^i->(fq i x l).1<18446744073709551616/\((fq i x l).2.2=0->i<(fq i x l).2.1/\(fq i x l).2.1<=i+l.length/\(fq i x l).2.1<=10)/\(¬(fq i x l).2.2=0->(fq i x l).1=0/\(fq i x l).2.1=0/\(fq i x l).2.2<=2):=by
 induction l with
 | nil=>intro i x d h;simp[fq]
 | cons c t o=>
  intro i x d h;unfold fq;split;·simp
  ·rename_i p;have q:c.toNat%128<128:=jB _ ω₁;have z:x+c.toNat%128*128^i<128^(i+1):=(by have:c.toNat%128*128^i<=127*128^i:=cY _ ω₁;omega);by_cases A:i=9;·grind
   ·have D:(128:Nat)^(i+1)<=128^9:=dn ω₁ ω₁;grind
def xi(l:U0₁):(bN l).1<18446744073709551616:=(xj l 0 0 ω₁ σ₁).1
def tN(l:U0₁)(h:(bN l).2.2=0):0<(bN l).2.1/\(bN l).2.1<=l.length/\(bN l).2.1<=10:=by
 have:=(xj l 0 0 ω₁ σ₁).2.1 h;rw[jZQb]at this;exact this
def xg(l:U0₁)(h:¬(bN l).2.2=0):(bN l).1=0/\(bN l).2.1=0/\(bN l).2.2<=2:=(xj l 0 0 ω₁ σ₁).2.2 h
def aE(d:Nat)(l:U0₁):Nat × Nat × Nat:=
 if(bN l).2.2=0 then(if d<(bN l).1 then(0,0,6)else bN l)else(0,0,(bN l).2.2)
def jN(d:Nat)(l:U0₁)(h:(aE d l).2.2=0):0<(aE d l).2.1/\(aE d l).2.1<=l.length/\(aE d l).1<=d:=by
 unfold aE at *;split at h
 ·rename_i o;split at h;·simp at h
  ·rename_i h1;rw[anQb o,ae h1];have:=tN l o;omega
 ·grind
def KN(d:Nat)(l:U0₁)(h:¬(aE d l).2.2=0):(aE d l).1=0/\(aE d l).2.1=0/\(aE d l).2.2<=6:=by
 unfold aE at *;split at h;·grind
 ·rename_i o;rw[ae o];have:=xg l o;grind
structure Cs where
 at_:Nat
 er:Nat
def Cs.step(s:Cs)(r:Nat × Nat × Nat):Cs:=if s.er=0 then(if r.2.2=0 then⟨s.at_+r.2.1,0⟩else⟨s.at_,r.2.2⟩)else s
def Cs.val(s:Cs)(r:Nat × Nat × Nat):Nat:=if s.er=0/\r.2.2=0 then r.1 else 0
def Cs.num(s:Cs)(l:U0₁):Nat × Cs:=(s.val (bN (l.drop s.at_)),s.step (bN (l.drop s.at_)))
def Cs.int(s:Cs)(l:U0₁)(d:Nat):Nat × Cs:=(s.val (aE d (l.drop s.at_)),s.step (aE d (l.drop s.at_)))
def Cs.fail(s:Cs)(e:Nat):Cs:=if s.er=0 then⟨s.at_,e⟩else s
def Cs.fin(s:Cs)(l:U0₁):Cs:=if s.er=0/\s.at_<l.length then⟨s.at_,2⟩else s
def Cs.take(s:Cs)(l:U0₁)(k:Nat):U0₁ × Cs:=
 if s.er=0 then(if l.length<s.at_+k then([],⟨s.at_,1⟩)else((l.drop s.at_).take k,⟨s.at_+k,0⟩))else([],s)
def Cs.byte(s:Cs)(l:U0₁):Nat × Cs:=((((s.take l 1).1).getD 0 0).toNat,(s.take l 1).2)
def Cs.fixed(s:Cs)(l:U0₁)(k:Nat):Nat × Cs:=(cd (s.take l k).1,(s.take l k).2)
def fy(d:Nat)(l:U0₁):U0₁ × Nat × Nat:=
 if(aE d l).2.2=0 then(if l.length<(aE d l).2.1+(aE d l).1 then([],0,1)else((l.drop (aE d l).2.1).take (aE d l).1,(aE d l).2.1+(aE d l).1,0))else([],0,(aE d l).2.2)
def Cs.text(s:Cs)(l:U0₁)(d:Nat):U0₁ × Cs:=
 (if s.er=0 then(fy d (l.drop s.at_)).1 else [],s.step (0,(fy d (l.drop s.at_)).2))
def sU(d:Nat)(l:U0₁)(h:(fy d l).2.2=0):0<(fy d l).2.1/\(fy d l).2.1<=l.length/\(fy d l).1.length<=d:=by
 unfold fy at *;split at h
 ·rename_i o;split at h;·simp at h
  ·rename_i h1;rw[anQb o,ae h1];have:=jN d l o;grind
 ·grind
def Gx(d:Nat)(l:U0₁)(h:¬(fy d l).2.2=0):(fy d l).1=[]/\(fy d l).2.1=0:=by
 unfold fy at *;grind
def Cs.step_le(s:Cs)(r:Nat × Nat × Nat)(n:Nat)(h:s.at_<=n)(h2:r.2.2=0->r.2.1<=n-s.at_):(s.step r).at_<=n:=by
 unfold Cs.step;grind
def Cs.num_le(s:Cs)(l:U0₁)(h:s.at_<=l.length):(s.num l).2.at_<=l.length:=
 s.step_le _ _ h λe=>by have:=tN _ e;rw[bn]at this;omega
def Cs.int_le(s:Cs)(l:U0₁)(d:Nat)(h:s.at_<=l.length):(s.int l d).2.at_<=l.length:=
 s.step_le _ _ h λe=>by have:=jN _ _ e;rw[bn]at this;omega
def Cs.text_le(s:Cs)(l:U0₁)(d:Nat)(h:s.at_<=l.length):(s.text l d).2.at_<=l.length:=
 s.step_le _ _ h λe=>by have h2:=(sU _ _ e).2.1;rw[bn]at h2;exact h2
def Cs.take_le(s:Cs)(l:U0₁)(k:Nat)(h:s.at_<=l.length):(s.take l k).2.at_<=l.length:=by
 unfold Cs.take;grind
def cA(l:U0₁)(i:Nat):Nat:=(l.getD (i / 8) 0).toNat / 2^(7-i%8)%2
def ni(l:U0₁)(i:Nat):cA l i=0\/cA l i=1:=by unfold cA;omega
def aZ(l:U0₁):U0₁:=(List.range (8*l.length)).map λi=>UInt8.ofNat (cA l i)
def kT(l:U0₁):(aZ l).length=8*l.length:=by simp[aZ]
def B7(l:U0₁)(i:Nat)(h:i<(aZ l).length):(aZ l)[i]=UInt8.ofNat (cA l i):=by simp[aZ]
def tE(l:U0₁)(i:Nat)(h:i<(aZ l).length):((aZ l)[i]).toNat=cA l i:=by
 rw[B7];rcases ni l i with e | e <;> rw[e] <;> rfl
def aF(l:U0₁)(a:Nat):Nat->Nat
 | 0=>0
 | n+1=>2*aF l a n+cA l (a+n)
def jt(l:U0₁)(a n:Nat):aF l a n<2^n:=by
 induction n with
 | zero=>simp[aF]
 | succ n d=>have:=ni l (a+n);rw[aF,gE];omega
def Ck(l:U0₁)(a n:Nat):aF l a n=0↔∀i,i<n->cA l (a+i)=0:=by
 induction n with
 | zero=>simp[aF]
 | succ n d=>rw[aF];grind
def fV(l:U0₁):Nat->Nat->Option Nat
 | 0,_=>none
 | f+1,i=>if cA l i=1 then some i else fV l f (i+1)
def zV(l:U0₁)(i:Nat)(h:i<8*l.length):fV l (8*l.length-i) i=if cA l i=1 then some i else fV l (8*l.length-(i+1)) (i+1):=by
 have e:8*l.length-i=(8*l.length-(i+1))+1:=ω₁
 rw[e,fV]
def Gv(l:U0₁)(f:Nat):∀i j,fV l f i=some j->i<=j/\j<i+f:=by
 induction f with
 | zero=>intro i j h;cases h
 | succ f d=>intro i j h;rw[fV]at h;grind
def dg(l:U0₁)(a:Nat):Nat × Nat × Nat:=
 match fV l (8*l.length-a) a with
 | some i=>(i-a,i+1,0)
 | none=>(0,a,1)
def vG(l:U0₁)(a:Nat)(d:a<=8*l.length):a<=(dg l a).2.1/\(dg l a).2.1<=8*l.length/\(dg l a).1<=8*l.length:=by
 unfold dg
 cases h:fV l (8*l.length-a) a with
 | none=>exact⟨auQb _,d,axQb _⟩
 | some i=>have:=Gv _ _ _ _ h;grind
def dX(o w:Nat)(r:U0₁):Nat->Nat->Nat->Nat->Nat->List Nat->List Nat × Nat × Nat
 | 0,_,a,_,_,h=>(h,a,0)
 | k+1,i,a,d,p,h=>
  if (dg r a).2.2 = 0 then
   (if (d + (dg r a).1) * 2 ^ w + aF r (w * i) w < p then ([], 0, 2)
    else if o ≤ (d + (dg r a).1) * 2^w + aF r (w * i) w then ([], 0, 8)
    else dX o w r k (i + 1) (dg r a).2.1 (d + (dg r a).1) ((d + (dg r a).1) * 2^w + aF r (w * i) w + 1) (h ++ [(d + (dg r a).1) * 2^w + aF r (w * i) w]))
  else([],0,1)
def kV(r:U0₁)(a:Nat):Bool:=decide (aF r a ((8-a%8)%8)=0)
def eK(d:Nat)(b:U0₁):List Nat × Nat × Nat:=
 if (aE d b).2.2 = 0 then
  (if (aE d b).1 = 0 then ([], (aE d b).2.1, 0)
   else if 8 * (b.drop (aE d b).2.1).length < (aE d b).1 * Nat.log2 (d / (aE d b).1) then ([], 0, 1)
   else if (dX d (Nat.log2 (d / (aE d b).1)) (b.drop (aE d b).2.1) (aE d b).1 0 ((aE d b).1 * Nat.log2 (d / (aE d b).1)) 0 0 []).2.2 = 0 then
     (if kV (b.drop (aE d b).2.1) (dX d (Nat.log2 (d / (aE d b).1)) (b.drop (aE d b).2.1) (aE d b).1 0 ((aE d b).1 * Nat.log2 (d / (aE d b).1)) 0 0 []).2.1 then
       ((dX d (Nat.log2 (d / (aE d b).1)) (b.drop (aE d b).2.1) (aE d b).1 0 ((aE d b).1 * Nat.log2 (d / (aE d b).1)) 0 0 []).1,
        (aE d b).2.1 + ((dX d (Nat.log2 (d / (aE d b).1)) (b.drop (aE d b).2.1) (aE d b).1 0 ((aE d b).1 * Nat.log2 (d / (aE d b).1)) 0 0 []).2.1 + 7) / 8, 0)
      else ([], 0, 2))
   else ([], 0, (dX d (Nat.log2 (d / (aE d b).1)) (b.drop (aE d b).2.1) (aE d b).1 0 ((aE d b).1 * Nat.log2 (d / (aE d b).1)) 0 0 []).2.2))
 else([],0,(aE d b).2.2)
def DC(o w:Nat)(r:U0₁)(k:Nat):∀(i a p q:Nat) (d:List Nat),a<=8*r.length->(dX o w r k i a p q d).2.2=0->(dX o w r k i a p q d).2.1<=8*r.length/\a<=(dX o w r k i a p q d).2.1/\(dX o w r k i a p q d).1.length=d.length+k/\((∀x∈d,x<o)->∀x∈(dX o w r k i a p q d).1,x<o):=by
 induction k with
 | zero=>intro i a p q d z _;exact⟨z,auQb _,rfl,λh=>h⟩
 | succ k D=>
  intro i a p q d z h;rw[dX]at h ⊢;split at h
  ·rename_i A;rw[anQb A];split at h;·simp at h
   ·rename_i h1;rw[ae h1];split at h;·simp at h
    ·rename_i h2;rw[ae h2];have F:=vG r a z;grind
  ·simp at h
def yi(d:Nat)(b:U0₁)(h:(eK d b).2.2=0):(eK d b).2.1<=b.length/\0<(eK d b).2.1/\(eK d b).1.length<=d/\∀x∈(eK d b).1,x<d:=by
 unfold eK at *;split at h
 ·rename_i o;rw[anQb o];have p:=jN _ _ o;split at h;·grind
  ·rename_i h1;rw[ae h1];split at h;·simp at h
   ·rename_i h2;rw[ae h2];split at h
    ·rename_i h3;rw[anQb h3];split at h;·rename_i h4;rw[anQb h4];have q:=DC _ _ _ _ _ _ _ _ _ ω₁ h3;grind
     ·simp at h
    ·grind
 ·grind
structure bW where
 lit:UInt8
 len:Nat
 dist:Nat
 deriving DecidableEq
instance:Inhabited bW:=⟨⟨0,0,0⟩⟩
def ED(b:U0₁):Nat->Nat->Nat->Nat
 | _,_,0=>0
 | f,a,n+1=>if a<b.length/\b[f]?=b[a]? then ED b (f+1) (a+1) n+1 else 0
def EE(b:U0₁)(f a:Nat):Nat:=ED b f a 257
def zZ(b:U0₁)(p:Nat):U0₁:=(b.drop p).take 3
def H6(b:U0₁)(d:Nat)(s:Nat × Nat)(h:Nat):Nat × Nat:=if s.1<EE b (d-h) d then(EE b (d-h) d,h)else s
def Ex(b:U0₁)(h:Nat):Nat->Nat × Nat
 | 0=>(0,0)
 | d+1=>H6 b h (Ex b h d) (d+1)
def uC(b:U0₁)(d:Nat):Nat × Nat:=Ex b d (min 4095 d)
def RH(s t:Nat × Nat):Prop:=(3<=s.1->t=s)/\(s.1<3->t=(0,0))
def xK(b:U0₁)(key:U0₁):Nat->Option Nat
 | 0=>none
 | n+1=>if n+3<=b.length/\zZ b n=key then some n else xK b key n
def Jm(b:U0₁)(p:Nat):Option Nat:=if p+3<=b.length then xK b (zZ b p) p else none
def yg(b:U0₁)(a:Nat):List bW:=
 if h : a < b.length then
  if h3:3<=(uC b a).1 then⟨0,(uC b a).1,(uC b a).2⟩::yg b (a+(uC b a).1)
  else⟨b[a],0,0⟩::yg b (a+1)
 else []
termination_by b.length-a
def yf(b:U0₁):List bW:=yg b 0
def gR(t:bW):Bool:=if t.len=0 then decide (t.dist=0)else decide (t.lit=0) && decide (3<=t.len) && decide (t.len<=257) && decide (1<=t.dist) && decide (t.dist<=4095)
def aL(d:U0₁)(l:Nat):Nat:=d.countP λc=>c.toNat == l
def mY(d:U0₁)(l:Nat):aL d l<=d.length:=List.countP_le_length
theorem qe(l:Nat):aL [] l=0:=rfl
def Ec(a b:U0₁)(l:Nat):aL (a++b) l=aL a l+aL b l:=by simp[aL]
def yw(c:UInt8)(b:U0₁)(l:Nat):aL (c::b) l=aL b l+if c.toNat=l then 1 else 0:=by
 simp[aL,List.countP_cons]
def mj(d:U0₁)(k l:Nat)(h:k<d.length):aL (d.take (k+1)) l=aL (d.take k) l+if d[k].toNat=l then 1 else 0:=by
 rw[ea h,Ec,yw,qe];omega
def ut(d:U0₁)(k l:Nat):aL (d.take k) l<=aL d l:=by
 conv=>rhs;rw[<- jCQb k d]
 rw[Ec];omega
def bO(d:U0₁):Nat->Nat
 | 0=>0
 | 1=>0
 | l+2=>2*(bO d (l+1)+aL d (l+1))
def rW(d:U0₁)(l:Nat)(h:1<=l):bO d (l+1)=2*(bO d l+aL d l):=by
 obtain⟨k,rfl⟩:∃k,l=k+1:=⟨l-1,ω₁⟩;rfl
def Dw(d:U0₁)(l:Nat):bO d l+2*d.length<=d.length*2^(l+1):=by
 induction l with
 | zero=>simp[bO];omega
 | succ l o=>
  rcases kJ l with rfl | h;·simp[bO];omega
  ·rw[rW d l h];have:=mY d l;have e:d.length*2^(l+1+1)=2*(d.length*2^(l+1)):=(by rw[gE 2 (l+1)];simp[g7,Nat.mul_left_comm]);rw[e];omega
def b8(d:U0₁)(l s:Nat):Nat:=bO d l+aL (d.take s) l
def zT(d:U0₁)(l s:Nat)(o:l<=15)(h:d.length<=300):b8 d l s<=20000000:=by
 have h1:=Dw d l;have h2:=ut d s l;have h3:=mY d l;have h4:d.length*2^(l+1)<=300*2^16:=boQb h (dn ω₁ ω₁);unfold b8;omega
def vE(d:U0₁)(l:Nat):b8 d l 0=bO d l:=by simp[b8,qe]
def sR(d:U0₁)(l s:Nat)(h:s<d.length):b8 d l (s+1)=b8 d l s+if d[s].toNat=l then 1 else 0:=by
 unfold b8;rw[mj _ _ _ h];omega
def Gq(d:U0₁)(l:Nat)(h:1<=l):b8 d (l+1) 0=2*b8 d l d.length:=by
 rw[vE,rW _ _ h,b8,dPQb]
def dD(d:U0₁):List Nat:=d.mapIdx λs c=>if c=0 then 0 else b8 d c.toNat s%65536
def jT(d:U0₁):(dD d).length=d.length:=by simp[dD]
def qd(d:U0₁)(s:Nat)(h:s<d.length):(dD d)[s]'(by rw[jT];exact h)=if d[s]=0 then 0 else b8 d d[s].toNat s%65536:=by simp[dD]
def fs(d:U0₁):Nat:=(d.map λc=>if c=0 then 0 else 2^(15-c.toNat)).sum
theorem rR(c:UInt8)(l:U0₁):fs (c::l)=(if c=0 then 0 else 2^(15-c.toNat))+fs l:=rfl
def Lb(a b:U0₁):fs (a++b)=fs a+fs b:=by simp[fs]
def KY(d:U0₁)(k:Nat)(h:k<d.length):fs (d.take (k+1))=fs (d.take k)+if d[k]=0 then 0 else 2^(15-d[k].toNat):=by
 rw[ea h,Lb,rR];simp[fs]
def La(d:U0₁):fs d<=d.length*16384:=by
 induction d with
 | nil=>simp[fs]
 | cons c l o=>
  rw[rR,gFQb];have:(if c=0 then 0 else 2^(15-c.toNat))<=16384:=by
   split;·omega
   ·rename_i h;have p:c.toNat≠0:=λe=>h (fO.1 (by simpa using e));have:2^(15-c.toNat)<=2^14:=dn ω₁ ω₁;omega
  omega
def du(f:Nat->Nat):Nat->Nat
 | 0=>0
 | l+1=>du f l+f (l+1)
def AC(f g:Nat->Nat)(l:Nat):du (λk=>f k+g k) l=du f l+du g l:=by
 induction l with
 | zero=>rfl
 | succ l d=>simp only[du,d];omega
def A7(l:Nat):du (λ_=>0) l=0:=by induction l with | zero=>rfl | succ l d=>simp[du,d]
def A8(c v:Nat)(l:Nat):du (λk=>if c=k then v else 0) l=if 1<=c/\c<=l then v else 0:=by
 induction l with
 | zero=>simp[du];omega
 | succ l d=>rw[du,d];grind
def AB(f g:Nat->Nat)(l:Nat)(h:∀k,1<=k->k<=l->f k=g k):du f l=du g l:=by
 induction l with
 | zero=>rfl
 | succ l d=>rw[du,du,d (λk a b=>h k a ω₁),h (l+1) ω₁ ω₁]
def A6(d:U0₁)(h:∀c∈d,c.toNat<=15):du (λl=>aL d l*2^(15-l)) 15=fs d:=by
 induction d with
 | nil=>simp[qe,fs,A7]
 | cons c d p=>
  have o:=h c (by simp);rw [rR,<- p (fun c o=>h c (by simp [o]))];rw [AB (fun l => aL (c :: d) l * 2 ^ (15 - l)) (fun l => (aL d l * 2 ^ (15 - l)) + if c.toNat = l then 2 ^ (15 - c.toNat) else 0) 15 (fun k _ _ => by
    rw[yw, bPQb];by_cases e : c.toNat = k;·grind
    · rw[ae e, ae e]; omega)]
  rw[AC,A8];by_cases q:c=0;·simp_all
  ·have z:c.toNat≠0:=λe=>q (fO.1 (by simpa using e));grind
def gm(d:U0₁):Nat:=d.countP λc=>c != 0
def Gc(d:U0₁):gm d<=d.length:=List.countP_le_length
def Hs(d:U0₁)(h:∀c∈d,c.toNat<=15):du (aL d) 15=gm d:=by
 induction d with
 | nil=>exact A7 15
 | cons c d q=>
  have o:=h c σ₁;rw[AB (aL (c::d)) (λl=>aL d l+if c.toNat=l then 1 else 0) 15 (λk _ _=>yw c d k),AC,A8,q (λc o=>h c (by simp[o]))];unfold gm;rw[List.countP_cons];by_cases p:c=0;·simp_all
  ·have z:c.toNat≠0:=λe=>p (fO.1 (by simpa using e));simp[p];omega
def df(d:U0₁):Bool:=decide (gm d=0) || decide (fs d=32768) || (decide (gm d=1) && decide (aL d 1=1))
def LX(d:U0₁):∀l,l<=15->(bO d l+(if l=0 then 0 else aL d l))*2^(15-l)=du (λk=>aL d k*2^(15-k)) l:=by
 intro l
 induction l with
 | zero=>intro _;simp[bO,du]
 | succ l o=>
  intro h;rw[du,<- o ω₁,ae ω₁];rcases kJ l with rfl | p;·simp[bO]
  ·rw[rW _ _ p,ae ω₁,show 15-l=(15-(l+1))+1 by omega,gE,bPQb (2*_)];grind
def Hw(f:Nat->Nat)(a b:Nat)(h:a<=b):du f a<=du f b:=by
 induction b with
 | zero=>rw[Nat.le_zero.1 h];exact auQb _
 | succ b d=>
  by_cases e:a=b+1;·grind
  ·rw[du];have:=d ω₁;omega
def JW(p:U0₁)(h:df p=true):fs p<=32768:=by
 unfold df at h;simp only[Bool.or_eq_true,lS,iU]at h;rcases h with(h | h) | ⟨h,_⟩
 ·have:∀l:U0₁,gm l=0->fs l=0:=by
    intro l
    induction l with
    | nil=>intro _;rfl
    | cons c l o=>
     intro e;unfold gm at e;rw[List.countP_cons]at e
     have q : c = 0 := by by_cases d : c = 0; · exact d
                          ·grind
     rw[rR,anQb q,o (by unfold gm;omega)]
  grind
 ·omega
 ·have:∀l:U0₁,gm l<=1->fs l<=gm l*16384:=by
    intro l
    induction l with
    | nil=>intro _;simp[fs]
    | cons c l o=>
     intro e;unfold gm at e ⊢;rw[List.countP_cons]at e ⊢;rw[rR];have z:=o (by unfold gm;omega);unfold gm at z;by_cases d:c=0;·grind
     ·have A:c.toNat≠0:=λe=>d (fO.1 (by simpa using e));have:2^(15-c.toNat)<=2^14:=dn ω₁ ω₁;simp[d]at *;omega
  grind
def vF(d:U0₁)(z:df d=true)(o:∀c∈d,c.toNat<=15)(s:Nat)(h:s<d.length)(A:d[s]≠0):b8 d d[s].toNat s<2^d[s].toNat:=by
 have h1:=JW d z;have p:=o _ (co h);have D:d[s].toNat≠0:=λe=>A (fO.1 (by simpa using e));have F:=sR d d[s].toNat s h;rw[anQb rfl]at F;have J:=ut d (s+1) d[s].toNat;have q:=LX d d[s].toNat p;rw[ae D]at q;have G:=Hw (λk=>aL d k*2^(15-k)) d[s].toNat 15 p;rw[A6 d o,<- q]at G;have h2:b8 d d[s].toNat (s+1)<=bO d d[s].toNat+aL d d[s].toNat:=by unfold b8;omega
 have h3:(2:Nat)^d[s].toNat*2^(15-d[s].toNat)=32768:=by rw[<- Nat.pow_add,show d[s].toNat+(15-d[s].toNat)=15 by omega]
 have I:=lm (15-d[s].toNat);have h4:(bO d d[s].toNat+aL d d[s].toNat)*2^(15-d[s].toNat)<=2^d[s].toNat*2^(15-d[s].toNat):=ω₁
 have h5:=Nat.le_of_mul_le_mul_right h4 I;omega
def nW(x:Nat):Nat->U0₁
 | 0=>[]
 | n+1=>UInt8.ofNat (x / 2^n%2)::nW x n
def Fp(l:U0₁):Prop:=∀c∈l,c=0\/c=1
def Gu(n:Nat):U0₁:=List.replicate n 0++[1]
def mp(l:U0₁)(i:Nat):Nat:=(l.getD i 0).toNat
def NC(l:U0₁)(q:Nat):Nat:=
 mp l (8*q)*128+mp l (8*q+1)*64+mp l (8*q+2)*32+mp l (8*q+3)*16+mp l (8*q+4)*8+mp l (8*q+5)*4+mp l (8*q+6)*2+mp l (8*q+7)
def wR(l:U0₁):U0₁:=(List.range ((l.length+7) / 8)).map λq=>UInt8.ofNat (NC l q)
def fM(d:U0₁)(s l:Nat):Nat:=if aL (d.take s) l=0 then 0 else bO d l%65536
def sM(d:U0₁)(s l:Nat):List Nat:=(List.range s).filter λi=>(d.getD i 0).toNat == l
theorem Ip(d:U0₁)(l:Nat):sM d 0 l=[]:=rfl
def Mm(d:U0₁)(l:Nat):fM d 0 l=0:=by simp[fM,qe]
def tj(d:U0₁)(s l:Nat)(h:s<d.length):sM d (s+1) l=sM d s l++if d[s].toNat=l then [s]else []:=by
 have e:d.getD s 0=d[s]:=by rw[fx,cQ h];rfl
 unfold sM;rw[jD,vh];congr 1;simp only[vg,List.filter_nil,e];by_cases h2:d[s].toNat=l <;> simp[h2]
def vW(d:U0₁)(s l:Nat)(h:s<=d.length):(sM d s l).length=aL (d.take s) l:=by
 induction s with
 | zero=>simp[sM,qe]
 | succ s o=>rw[tj d s l h,aMQb,o ω₁,mj _ _ _ h];split <;> rfl
def Dz(d:U0₁)(s l:Nat)(h:s<d.length):fM d (s+1) l=if d[s].toNat=l then bO d l%65536 else fM d s l:=by
 unfold fM;rw[mj _ _ _ h];by_cases h2:d[s].toNat=l;·rw[anQb h2,anQb h2,ae ω₁]
 ·rw[ae h2,ae h2];rfl
def Mb(d:U0₁)(s:Nat)(h:s<d.length)(o:d[s]≠0)(p:aL (d.take s) d[s].toNat=0):(dD d)[s]'(by rw[jT];exact h)=bO d d[s].toNat%65536:=by
 rw[qd d s h,ae o];unfold b8;rw[p,g8]
def LZ(d:U0₁)(s l:Nat)(h:aL (d.take s) l≠0):fM d s l=bO d l%65536:=by unfold fM;rw[ae h]
def bj(d:U0₁)(s:Nat):Nat:=(d.getD s 0).toNat
def jq(d:U0₁)(s:Nat)(h:s<d.length):bj d s=d[s].toNat:=by
 unfold bj;rw[fx,cQ h];rfl
def Ho(d:U0₁)(s:Nat)(h:d.length<=s):bj d s=0:=by
 unfold bj;rw[fx,jH h];rfl
def NS(d:U0₁)(s:Nat):U0₁:=if bj d s=0 then []else nW ((dD d).getD s 0) (bj d s)
def yt(d:U0₁)(s:Nat)(h:s<d.length):(dD d).getD s 0=(dD d)[s]'(by rw[jT];exact h):=by
 rw[fx,cQ];rfl
def Ea(d:U0₁)(s:Nat)(h:s<(dD d).length):(dD d)[s]<65536:=by
 rw[qd d s (by rw[jT]at h;exact h)];split;·omega
 ·exact jB _ ω₁
def vp:U0₁->Nat->Nat
 | [],_=>0
 | _::_,0=>0
 | c::l,k+1=>if c=0 then vp l k+1 else 0
def vy:U0₁->U0₁
 | []=>[]
 | c::r=>if c=0 then nW 0 4++(nW (vp r 63) 6++vy (r.drop (vp r 63)))else nW c.toNat 4++vy r
termination_by l=>l.length
decreasing_by
 ·rw[bn,gFQb];omega
 ·rw[gFQb];omega
def Ed(v:Nat):Nat:=Nat.log2 v
def Bg(v:Nat):Nat:=v-2^Nat.log2 v
structure Fh where
 sym:Nat
 len:Nat
 dist:Nat
 far:Nat
 deriving DecidableEq
def lY(t:bW):Fh:=if t.len=0 then⟨t.lit.toNat,0,0,0⟩else⟨257+Ed (t.len-2),Bg (t.len-2),Ed t.dist,Bg t.dist⟩
def pW(t:bW)(h:gR t=true)(d:t.len≠0):t.lit=0/\3<=t.len/\t.len<=257/\1<=t.dist/\t.dist<=4095:=by
 unfold gR at h;rw[ae d]at h;simp only[lS,iU]at h;exact⟨h.1.1.1.1,h.1.1.1.2,h.1.1.2,h.1.2,h.2⟩
def Hk(l:List bW)(k:Nat):Nat:=l.countP λt=>(lY t).sym == k
def Mk(l:List bW)(k:Nat):Nat:=l.countP λt=>decide (t.len≠0) && ((lY t).dist == k)
def Hn(l:List bW):List Nat:=(List.range 265).map λk=>Hk l k+if k=256 then 1 else 0
def Ml(l:List bW):List Nat:=(List.range 12).map (Mk l)
def zP(a:U0₁):U0₁:=if df a then vy a else []
def wK(a:U0₁)(s:Nat):U0₁:=if df a then NS a s else []
def G4(a b:U0₁)(t:bW):U0₁:=
 wK a (lY t).sym++if t.len=0 then []else nW (lY t).len ((lY t).sym-257)++(wK b (lY t).dist++nW (lY t).far (lY t).dist)
def Gz(a b:U0₁)(l:List bW):U0₁:=l.flatMap (G4 a b)
def Oz(a b:U0₁)(l:List bW):U0₁:=((zP a++zP b)++Gz a b l)++wK a 256
def Dv(d:U0₁)(l:Nat)(h1:1<=l)(h2:l<=14):bO d (l+1)*2^(15-(l+1))=(bO d l+aL d l)*2^(15-l):=by
 rw[rW d l h1,show 15-l=(15-(l+1))+1 by omega,gE,g7 2 (bO d l+aL d l),Nat.mul_assoc,g7 2]
def Ma(o:U0₁)(l:Nat)(h1:1<=l):∀d,l+1+d<=15->(bO o l+aL o l)*2^(15-l)<=bO o (l+1+d)*2^(15-(l+1+d)):=by
 intro d
 induction d with
 | zero=>intro h;rw[g8,Dv o l h1 ω₁];exact auQb _
 | succ d p=>intro h;refine arQb (p ω₁) ?_;rw[show l+1+(d+1)=(l+1+d)+1 by omega,Dv o (l+1+d) ω₁ ω₁];grind
def BZ(d:U0₁)(x l m:Nat)(h1:1<=l)(h2:l<m)(h3:m<=15)(h4:x / 2^(15-l)<bO d l+aL d l)(h5:bO d m<=x / 2^(15-m)):False:=by
 have e:m=l+1+(m-(l+1)):=ω₁
 have h:=Ma d l h1 (m-(l+1)) ω₁;rw[<- e]at h;have o:=(pB (lm _)).1 h4;have p:=(zr (lm _)).1 h5;omega
def jP(d:U0₁)(x h s:Nat):Bool:=
 decide (0<bj d s) && decide (bj d s<=h) && decide (x / 2^(15-bj d s)=b8 d (bj d s) s)
def kx(d:U0₁)(x h:Nat):Option Nat:=(List.range d.length).find? (jP d x h)
def nR(d:U0₁)(x h s:Nat):jP d x h s=true↔0<bj d s/\bj d s<=h/\x / 2^(15-bj d s)=b8 d (bj d s) s:=by
 unfold jP;grind
def tp(d:U0₁)(l:Nat):∀n,n<=d.length->∀k,k<aL (d.take n) l->∃s,s<n/\(sM d n l)[k]?=some s/\bj d s=l/\aL (d.take s) l=k:=by
 intro n
 induction n with
 | zero=>intro _ k h;simp[aL]at h
 | succ n o=>
  intro p k h;have q:=vW d n l ω₁;rw[mj _ _ _ (show n<d.length by omega)]at h;rw[tj d n l ω₁];by_cases z:k<aL (d.take n) l;·grind
  ·by_cases h2:d[n].toNat=l;·rw[anQb h2]at h;refine⟨n,ω₁,?_,by rw[jq d n ω₁];exact h2,ω₁⟩;grind
   ·grind
def ur(d:U0₁)(s l:Nat)(o:s<d.length)(h:bj d s=l):aL (d.take s) l<aL d l:=by
 have h1:=ut d (s+1) l;rw[mj _ _ _ o,anQb (by rw[<- jq d s o];exact h)]at h1;omega
def Eb(d:U0₁)(l s t:Nat)(p:s<d.length)(q:t<d.length)(h1:bj d s=l)(h2:bj d t=l)(h:aL (d.take s) l=aL (d.take t) l):s=t:=by
 have key:∀a b,a<b->b<d.length->bj d a=l->aL (d.take a) l<aL (d.take b) l:=by intro a b z A o;have e:(d.take b).take (a+1)=d.take (a+1):=(by rw[List.take_take,kf ω₁]);have h3:=ut (d.take b) (a+1) l;rw[e,mj _ _ _ (show a<d.length by omega),anQb (by rw[<- jq d a ω₁];exact o)]at h3;omega
 rcases Nat.lt_trichotomy s t with h3 | h3 | h3;·grind
 ·exact h3
 ·grind
def Dg(d:U0₁)(x o l k:Nat)(h1:1<=l)(h2:l<=o)(h3:o<=15)(D:k<aL d l)(F:x / 2^(15-l)=bO d l+k):∃s,s<d.length/\(sM d d.length l)[k]?=some s/\kx d x o=some s/\bj d s=l:=by
 obtain⟨s,q,G,z,I⟩:=tp d l d.length (auQb _) k (by rw[dPQb];exact D);refine⟨s,q,G,?_,z⟩;have J:jP d x o s=true:=(nR _ _ _ _).2 ⟨ω₁,ω₁,by rw[z,F];unfold b8;rw[I]⟩;have Q:∀t,t<d.length->jP d x o t=true->t=s:=by
  intro t A h;obtain⟨K,R,p⟩:=(nR _ _ _ _).1 h;have U:=ur d t _ A rfl;have L:x / 2^(15-bj d t)<bO d (bj d t)+aL d (bj d t):=(by rw[p];unfold b8;omega);have M:bO d (bj d t)<=x / 2^(15-bj d t):=(by rw[p];unfold b8;omega);rcases Nat.lt_trichotomy (bj d t) l with h4 | h4 | h4;·exact(BZ d x _ l K h4 ω₁ L ω₁).elim
  ·refine Eb d l t s A q h4 z ?_;rw[h4]at p;unfold b8 at p;omega
  ·exact(BZ d x l _ h1 h4 ω₁ ω₁ M).elim
 unfold kx;cases O:(List.range d.length).find? (jP d x o)with
 | none=>exact absurd J (by simpa using List.find?_eq_none.1 O s (by simpa using q))
 | some t=>grind
def Ly(d:U0₁)(x o:Nat)(h:∀l,1<=l->l<=o->¬(bO d l<=x / 2^(15-l)/\x / 2^(15-l)<bO d l+aL d l)):kx d x o=none:=by
 unfold kx;rw[List.find?_eq_none];intro s p q;obtain⟨z,A,D⟩:=(nR _ _ _ _).1 q;have F:=ur d s _ (by simpa using p) rfl;exact h _ z A (by rw[D];unfold b8;omega)
def lC(d:U0₁)(y l:Nat):Bool:=(List.range d.length).any λs=>decide (l<bj d s) && decide (b8 d (bj d s) s / 2^(bj d s-l)=y)
def BQ(d:U0₁)(y l:Nat)(F:∀s,bj d s<=15):lC d y l=true↔∃k,l<k/\k<=15/\0<aL d k/\y*2^(k-l)<bO d k+aL d k/\bO d k<(y+1)*2^(k-l):=by
 unfold lC;rw[List.any_eq_true];constructor;·rintro⟨s,o,h⟩;simp only[lS,iU]at h;obtain⟨h1,h2⟩:=h;have G:=ur d s _ (by simpa using o) rfl;have h3:=(Nat.div_eq_iff (lm _)).1 h2;have I:b8 d (bj d s) s=bO d (bj d s)+aL (d.take s) (bj d s):=rfl;grind
 ·rintro⟨k,h1,h2,h3,h4,h5⟩;obtain⟨j,p,q,z⟩:∃j,j<aL d k/\y*2^(k-l)<=bO d k+j/\bO d k+j<(y+1)*2^(k-l):=by
   by_cases J:y*2^(k-l)<=bO d k;·exact⟨0,h3,ω₁,ω₁⟩
   ·refine⟨y*2^(k-l)-bO d k,ω₁,ω₁,?_⟩;grind
  obtain⟨s,o,K,A,D⟩:=tp d k d.length (auQb _) j (by rw[dPQb];exact p);refine⟨s,by simpa using o,?_⟩;simp only[lS,iU];refine⟨ω₁,?_⟩;rw[A];unfold b8;rw[D];exact Nat.div_eq_of_lt_le q z
def lZ(l:U0₁)(n:Nat):U0₁:=l++(List.replicate n 0).drop l.length
def wQ(l:U0₁)(n:Nat)(h:l.length<=n):(lZ l n).length=n:=by simp[lZ];omega
def JD(l:U0₁)(n i:Nat):(lZ l n).getD i 0=l.getD i 0:=by
 unfold lZ;rw[fx,fx];by_cases h:i<l.length;·rw[List.getElem?_append_left h]
 ·rw[List.getElem?_append_right ω₁,jH (l:=l) ω₁,List.getElem?_drop,List.getElem?_replicate];split <;> rfl
def J4(l:U0₁)(n A d j c:Nat)(o:l.length<=n)(p:A+d<=n)(q:j+c<=d):((((lZ l n).drop A).take d).drop j).take c=sf l (A+j) c:=by
 have h:=wQ l n o;apply jI;·rw[yo,aP,bn,aP,bn,h];omega
 ·intro i h1 h2;rw[yo]at h2;have e:=JD l n (A+j+i);rw[ce _ _ _ (by rw[h];omega)]at e;simp only[sf,n5,pD,jm,lq];rw[<- e];congr 1;omega
def cZ{α:Type}(f:α->Nat)(l:List α):Nat:=(l.map f).sum
def vx{α:Type}(f:α->Nat)(l:List α)(k:Nat)(h:k<l.length):cZ f (l.take (k+1))=cZ f (l.take k)+f l[k]:=by
 unfold cZ;rw[ea h,gq,mC];simp
def zM{α:Type}(f:α->Nat)(m:Nat)(l:List α)(h:∀x∈l,f x<=m):cZ f l<=l.length*m:=by
 induction l with
 | nil=>simp[cZ]
 | cons x l d=>have h1:=h x (uY ..);have h2:=d (λy o=>h y (uZ _ o));unfold cZ at *;rw[kLQb,qL,gFQb,bPQb];omega
def LS{α β:Type}(f:α->List β)(l:List α):((l.map f).flatten).length=cZ (λx=>(f x).length) l:=by
 induction l with
 | nil=>rfl
 | cons x l d=>unfold cZ at *;simp[d]
def zL{α:Type}(f:α->Nat)(l:List α)(k:Nat):cZ f (l.take k)<=cZ f l:=by
 unfold cZ;conv=>rhs;rw[<- jCQb k l]
 grind
def FP{α:Type}(f g:α->Nat)(l:List α)(h:∀x∈l,f x<=g x):cZ f l<=cZ g l:=by
 induction l with
 | nil=>exact auQb _
 | cons x l d=>have h1:=h x (uY ..);have h2:=d (λy o=>h y (uZ _ o));unfold cZ at *;grind
def xV{α:Type}(S:Nat)(f:α->Nat):Nat->Nat->List α->List Nat
 | c,_,[]=>[c]
 | c,h,r::l=>if h+f r<=S then xV S f (c+1) (h+f r) l else c::xV S f 1 (f r) l
def xX{α:Type}(S:Nat)(f:α->Nat):List α->List Nat
 | []=>[]
 | r::l=>xV S f 1 (f r) l
def ME(t d:Nat):Nat:=(t+18446744073709551616-d)%18446744073709551616
def GO:Nat->List Nat->U0₁
 | _,[]=>[]
 | d,t::l=>bE (FB (ME t d))++GO t l
def xG:UInt8->Nat->U0₁->U0₁
 | x,c,[]=>x::bE c
 | x,c,y::l=>if y=x then xG x (c+1) l else(x::bE c)++xG y 1 l
def R3:U0₁->U0₁
 | []=>[]
 | x::l=>xG x 1 l
def Bp(d:Nat):Nat->List Nat->Bool
 | _,[]=>true
 | h,x::l=>decide (h<=x) && decide (x<d) && Bp d (x+1) l
def Mt(w:Nat)(l:List Nat):U0₁:=(l.map λx=>nW (x%2^w) w).flatten
def DA(w:Nat):Nat->List Nat->U0₁
 | _,[]=>[]
 | d,x::l=>Gu (x / 2^w-d)++DA w (x / 2^w) l
def Mu(d:Nat)(l:List Nat):U0₁:=
 bE l.length++if l=[]then []else wR (Mt (Nat.log2 (d / l.length)) l++DA (Nat.log2 (d / l.length)) 0 l)
def C3(q k:Nat)(h1:2^k<=q)(h2:q<2^(k+1)):Nat.log2 q=k:=(Nat.log2_eq_iff (by have:=lm k;omega)).2 ⟨h1,h2⟩
def xH(key:Nat->Nat)(a b:Nat):Prop:=key a<key b\/(key a=key b/\a<b)
abbrev RS(key:Nat->Nat)(l:List Nat):Prop:=l.Pairwise (xH key)
def yk(f:Nat->Bool):Nat->Nat
 | 0=>0
 | n+1=>if f n then yk f n else n+1
def Jj(key:Nat->Nat)(l:List Nat)(x:Nat):List Nat:=
 l.take (yk (λi=>decide (key x<key (l.getD i 0))) l.length)++x::l.drop (yk (λi=>decide (key x<key (l.getD i 0))) l.length)
def Gr(key:Nat->Nat)(l:List Nat):List Nat:=l.foldl (Jj key) []
def AU(f:Nat->Nat)(a b:Nat):List Nat:=(List.range (b-a)).map λi=>f (a+i)
def ES(f f':Nat->Nat)(a b:Nat):Prop:=(∀p,p<a\/b<=p->f' p=f p)/\(AU f' a b).Perm (AU f a b)
def ID(f:Nat->Nat)(a m b p:Nat):Nat:=if a<=p/\p<a+(b-m)then f (p+m-a)else if a+(b-m)<=p/\p<b then f (p-(b-m))else f p
def Rk(f:Nat->Nat)(a b n p:Nat):Nat:=if a<=p/\p<a+n then f (p-a+b)else if b<=p/\p<b+n then f (p-b+a)else f p
def Rl(f:Nat->Nat)(i j p:Nat):Nat:=if p=j then f i else if p=i then f j else f p
def yY(key:Nat->Nat)(f:Nat->Nat)(a b:Nat):Prop:=∀i j,a<=i->i<j->j<b->xH key (f i) (f j)
def R7(g:Nat->Nat)(j i p:Nat):Nat:=ID g j i (i+1) p
def QZ(f:Nat->Nat)(a m b:Nat):Prop:=∀p q,a<=p->p<m->m<=q->q<b->f p<f q
section
variable {key f:Nat->Nat} {a m b mid s e:Nat} (h1:a<=s) (h2:s<=m) (h3:m<=e) (h4:e<=b) (h5:e+s=mid+m)
include h1 h2 h3 h4 h5
end
structure Sd (key f0 f:Nat->Nat) (c n lim:Nat):Prop where
 rear:ES f0 f 0 n
 loc:∀p,p<n->∃q,q<n/\q / c=p / c/\f p=f0 q
 srt:∀i j,i<j->j<n->j<lim->i / c=j / c->xH key (f i) (f j)
structure It where
 w:UInt64
 leaf:Bool
 syms:List Nat
instance:Inhabited It:=⟨⟨0,false,[]⟩⟩
def BU:List It->List It
 | a::b::l=>⟨a.w+b.w,false,a.syms++b.syms⟩::BU l
 | _=>[]
def xD:List It->List It->List It
 | [],d=>d
 | l::h,[]=>l::h
 | l::h,k::d=>if l.w<=k.w then l::xD h (k::d)else k::xD (l::h) d
termination_by a b=>a.length+b.length
def oH(d:List It):Nat->List It
 | 0=>d
 | r+1=>xD d (BU (oH d r))
def rQ(l:List It):Nat:=(l.filter (·.leaf)).length
def sZ(l:List It):List Nat:=(l.map (·.syms)).flatten
def My(d:List It):Nat->Nat->Nat->Nat
 | 0,t,s=>(sZ (d.take (rQ ((oH d 0).take t)))).count s
 | r+1,t,s=>(sZ (d.take (rQ ((oH d (r+1)).take t)))).count s+My d r (2*(t-rQ ((oH d (r+1)).take t))) s
def dR(d:List It):Nat->Nat->Nat->Nat
 | 0,_,_=>0
 | q+1,t,s=>(sZ (d.take (rQ ((oH d q).take t)))).count s+dR d q (2*(t-rQ ((oH d q).take t))) s
def Kv(l:List Nat):Nat:=l.foldl max 0
def Jk(d:List Nat)(n:Nat):List Nat:=d.take (d.length-n)++[Kv (d.drop (d.length-n))+1]
def rO(f g:Nat->Nat)(d:∀p q,p<256->q<256->f (p ^^^ q)=f p ^^^ f q)(o:∀p q,p<256->q<256->g (p ^^^ q)=g p ^^^ g q)(Q:∀k,k<8->f (2^k)=g (2^k))(i:Nat)(R:i<256):f i=g i:=by
 have e:nh i=i:=by simpa using iR 256 _ Et i R
 have U:f 0=0:=by have:=d 0 0 ω₁ ω₁;simpa using this
 have V:g 0=0:=by have:=o 0 0 ω₁ ω₁;simpa using this
 have z:∀k,k<8->jd i k<2^8:=by
  intro k h;unfold jd;split;·exact Nat.pow_lt_pow_right ω₁ h
  ·omega
 have A:∀k,k<8->f (jd i k)=g (jd i k):=by
  intro k h;unfold jd;split;·exact Q k h
  ·rw[U,V]
 have D:∀ {p q:Nat},p<2^8->q<2^8->p ^^^ q<2^8:=λh1 h2=>ix h1 h2;have M:=z 0 ω₁;have h1:=z 1 ω₁;have h2:=z 2 ω₁;have h3:=z 3 ω₁;have h4:=z 4 ω₁;have h5:=z 5 ω₁;have F:=z 6 ω₁;have G:=z 7 ω₁;have I:=D F G;have J:=D h5 I;have K:=D h4 J;have k3:=D h3 K;have L:=D h2 k3;have O:=D h1 L;have:f (nh i)=g (nh i):=by unfold nh;rw[d _ _ M O,d _ _ h1 L,d _ _ h2 k3,d _ _ h3 K,d _ _ h4 J,d _ _ h5 I,d _ _ F G,o _ _ M O,o _ _ h1 L,o _ _ h2 k3,o _ _ h3 K,o _ _ h4 J,o _ _ h5 I,o _ _ F G];rw[A 0 ω₁,A 1 ω₁,A 2 ω₁,A 3 ω₁,A 4 ω₁,A 5 ω₁,A 6 ω₁,A 7 ω₁]
 rwa [e]at this
def Hq(f:Nat):∀p q b,p<256->q<256->dw f (p ^^^ q) b=dw f p b ^^^ dw f q b:=by
 induction f with
 | zero=>intro p q b _ _;simp[dw]
 | succ f o=>intro p q b d h;rw[dw,dw,dw,zY p q d h,o _ _ _ (o0 p d) (o0 q h),vw];grind
def oN(p q b:Nat)(d:p<256)(h:q<256):aO (p ^^^ q) b=aO p b ^^^ aO q b:=by rw[jM,jM,jM,Hq 8 p q b d h]
def Na:iF 8 (λi=>iF 8 λj=>aO (2^i) (2^j) == aO (2^j) (2^i))=true:=by decide +kernel
def Cn(a b:Nat)(o:a<256)(z:b<256):aO a b=aO b a:=by
 refine rO (λb=>aO a b) (λb=>aO b a) (λp q _ _=>nK a p q) (λp q d h=>oN p q a d h) ?_ b z;intro j A;refine rO (λa=>aO a (2^j)) (λa=>aO (2^j) a) (λp q d h=>oN p q _ d h) (λp q _ _=>nK _ p q) ?_ a o;intro i D;simpa using iR 8 _ (iR 8 _ Na i D) j A
def Om:iF 8 (λi=>iF 8 λj=>iF 8 λk=>aO (aO (2^i) (2^j)) (2^k) == aO (2^i) (aO (2^j) (2^k)))=true:=by decide +kernel
def Kj(a b c:Nat)(o:a<256)(z:b<256)(A:c<256):aO (aO a b) c=aO a (aO b c):=by
 refine rO (λc=>aO (aO a b) c) (λc=>aO a (aO b c)) (λp q _ _=>by simp only[nK]) (λp q _ _=>by simp only[nK]) ?_ c A;intro k D;refine rO (λb=>aO (aO a b) (2^k)) (λb=>aO a (aO b (2^k))) (λp q _ _=>?_) (λp q d h=>?_) ?_ b z;·rw[nK,oN _ _ _ (kp a p o) (kp a q o)]
 ·rw[oN _ _ _ d h,nK]
 intro j F;refine rO (λa=>aO (aO a (2^j)) (2^k)) (λa=>aO a (aO (2^j) (2^k))) (λp q d h=>?_) (λp q d h=>?_) ?_ a o;·rw[oN _ _ _ d h,oN _ _ _ (kp p _ d) (kp q _ h)]
 ·rw[oN _ _ _ d h]
 intro i G;simpa using iR 8 _ (iR 8 _ (iR 8 _ Om i G) j F) k D
def bp(a b:UInt8):UInt8:=UInt8.ofNat (aO a.toNat b.toNat)
def ft(a:UInt8):UInt8:=UInt8.ofNat (if a.toNat=0 then 0 else iB a.toNat)
def mO(n:Nat)(h:n<256):(UInt8.ofNat n).toNat=n:=by rw[lk];exact m7 h
def ju(a b:UInt8):(bp a b).toNat=aO a.toNat b.toNat:=mO _ (kp _ _ a.toNat_lt)
def mR(a b:UInt8):bp a b=bp b a:=by unfold bp;rw[Cn _ _ a.toNat_lt b.toNat_lt]
def nM(a b c:UInt8):bp (bp a b) c=bp a (bp b c):=fO.1 (by rw[ju,ju,ju,ju,Kj _ _ _ a.toNat_lt b.toNat_lt c.toNat_lt])
def oO(a b c:UInt8):bp a (bp b c)=bp b (bp a c):=by rw[<- nM,mR a b,nM]
def rJ(a b c:UInt8):bp a (b ^^^ c)=bp a b ^^^ bp a c:=fO.1 (by rw[ju,UInt8.toNat_xor,UInt8.toNat_xor,ju,ju,nK])
def sQ(a b c:UInt8):bp (a ^^^ b) c=bp a c ^^^ bp b c:=by rw[mR,rJ,mR c,mR c]
def kY(a:UInt8):bp a 0=0:=fO.1 (by rw[ju];exact xy _)
def pJ(a:UInt8):bp 0 a=0:=fO.1 (by rw[ju];exact xr _)
def Ca:iF 256 (λa=>aO a 1 == a)=true:=by decide +kernel
def pV(a:UInt8):bp a 1=a:=fO.1 (by rw[ju];simpa using iR 256 _ Ca a.toNat a.toNat_lt)
def rG(a:UInt8):bp 1 a=a:=by rw[mR,pV]
def G5(a:UInt8)(h:a≠0):a.toNat≠0:=λe=>h (fO.1 e)
def oQ(a:UInt8)(h:a≠0):bp a (ft a)=1:=by
 have d:=G5 a h;have h1:=rT a.toNat d a.toNat_lt;unfold ft;rw[ae d];exact fO.1 (by rw[ju,mO _ h1.1,h1.2.1];rfl)
def Li:ft 1=1:=by decide +kernel
def rK(a b:UInt8)(d:a≠0)(h:bp a b=0):b=0:=by
 have h1:bp (ft a) (bp a b)=b:=by rw[<- nM,mR (ft a),oQ a d,rG]
 rw[h,kY]at h1;exact h1.symm
def xQ(a:UInt8)(h:a≠0):ft a≠0:=by
 intro e;have:=oQ a h;rw[e,kY]at this;exact absurd this δ
def FO{a b:UInt8}(h:a ^^^ b=0):a=b:=by
 simp_all
def ox{a b:UInt8}(h:a≠b):a ^^^ b≠0:=λe=>h (FO e)
def fR:U0₁->UInt8
 | []=>0
 | x::l=>x ^^^ fR l
def FI(a b:U0₁):fR (a++b)=fR a ^^^ fR b:=by
 induction a with
 | nil=>simp[fR]
 | cons x a d=>rw[lR,fR,fR,d,uR]
def vr(c:UInt8)(l:U0₁):bp c (fR l)=fR (l.map (bp c)):=by
 induction l with
 | nil=>exact kY c
 | cons x l d=>rw[fR,rJ,d,kLQb,fR]
def rk(a b c d:UInt8):(a ^^^ b) ^^^ (c ^^^ d)=(a ^^^ c) ^^^ (b ^^^ d):=by
 grind
def FJ{α:Type}(f g:α->UInt8)(l:List α):fR (l.map f) ^^^ fR (l.map g)=fR (l.map λx=>f x ^^^ g x):=by
 induction l with
 | nil=>simp[fR]
 | cons x l d=>simp only[kLQb,fR];rw[rk,d]
def N8(a b d g:UInt8)(o:a≠0)(h:b≠0):bp (a ^^^ b) (bp (bp g (bp d (ft b))) (ft a))=bp (a ^^^ d) (bp g (ft a)) ^^^ bp (b ^^^ d) (bp g (ft b)):=by
 have A:∀z,bp a (bp z (ft a))=z:=λz=>by rw[oO,oQ a o,pV]
 have B:∀z,bp b (bp z (ft b))=z:=λz=>by rw[oO,oQ b h,pV]
 rw[sQ,sQ,sQ,A,A,B,rk,qG,UInt8.zero_xor,nM g,nM d,oO b g,oO b d,<- nM b,oQ b h,rG,oO d g,oO d g,UInt8.xor_comm]
def N7:∀(q xs:U0₁) (c:UInt8->UInt8),q≠[]->q.length<=xs.length->q.Nodup->xs.Nodup->(∀x∈xs,x ∉ q)->(∀y∈q,c y≠0)->(∀x∈xs,fR (q.map λy=>bp (c y) (ft (x ^^^ y)))=0)->False:=by
 intro q
 induction q with
 | nil=>intro xs c h;exact absurd rfl h
 | cons o q V=>
  intro xs c _ W I J A K L;obtain _ | ⟨p,xs⟩:=xs;·grind
  have F:=A p σ₁;have D:=L p σ₁;rw[kLQb,fR]at D;by_cases M:q=[];·subst M;rw[qNQb,fR,pA]at D;exact xQ _ (ox (λe=>F (by simp[e]))) (rK _ _ (K o σ₁) D)
  ·refine V xs (λy=>bp (c y) (bp (y ^^^ o) (ft (p ^^^ y)))) M (by simpa using W) (List.nodup_cons.1 I).2 (List.nodup_cons.1 J).2 (λx h=>λh2=>A x (by simp[h]) (by simp[h2])) ?_ ?_;·intro y h e;have h1:=rK _ _ (K y (by simp[h])) e;have h2:=rK _ _ (ox (λe:y=o=>(List.nodup_cons.1 I).1 (e ▸ h))) h1;exact xQ _ (ox (λe=>F (by simp[e,h]))) h2
   ·intro x h;have O:=L x (by simp[h]);rw[kLQb,fR]at O;have X:x ^^^ p≠0:=ox (λe:x=p=>(List.nodup_cons.1 J).1 (e ▸ h));refine rK _ _ X ?_;have m:∀z,z∈p::xs->bp (z ^^^ o) (bp (c o) (ft (z ^^^ o)))=c o:=(by intro z Y;rw[oO,oQ _ (ox (λe=>A z Y (by simp[e]))),pV]);have Q:=iGQb (bp (p ^^^ o)) D;have R:=iGQb (bp (x ^^^ o)) O;rw[rJ,m p σ₁,kY,vr,nyQb]at Q;rw[rJ,m x (by simp[h]),kY,vr,nyQb]at R;have G:=congr (iGQb (· ^^^ ·) R) Q;simp only[pA]at G;rw[rk,qG,UInt8.zero_xor,FJ]at G;rw[vr,nyQb,<- G];congr 1;refine lP λy U=>?_;simp only[Function.comp];have Z:x ^^^ y≠0:=ox (λe=>A x (by simp[h]) (by simp[e,U]));have hb:p ^^^ y≠0:=ox (λe=>F (by simp[e,U]));have q1:x ^^^ p=(x ^^^ y) ^^^ (p ^^^ y):=(by rw[rk,qG,pA]);have q2:x ^^^ o=(x ^^^ y) ^^^ (y ^^^ o):=(by rw[uR,<- uR y,qG,UInt8.zero_xor]);have q3:p ^^^ o=(p ^^^ y) ^^^ (y ^^^ o):=(by rw[uR,<- uR y,qG,UInt8.zero_xor]);rw[q1,q2,q3];generalize c y=g,y ^^^ o=d,p ^^^ y=b,x ^^^ y=a at *;exact N8 a b d g Z hb
def xs:Nat->(Nat->UInt8)->UInt8
 | 0,_=>0
 | n+1,f=>xs n f ^^^ f n
def zG(n:Nat)(f:Nat->UInt8)(h:∀j,j<n->f j=0):xs n f=0:=by
 induction n with
 | zero=>rfl
 | succ n d=>rw[xs,d (λj o=>h j ω₁),h n ω₁];rfl
def rh(n:Nat)(f g:Nat->UInt8)(h:∀j,j<n->f j=g j):xs n f=xs n g:=by
 induction n with
 | zero=>rfl
 | succ n d=>rw[xs,xs,d (λj o=>h j ω₁),h n ω₁]
def vt(n i:Nat)(f:Nat->UInt8)(q:i<n)(h:∀j,j<n->j≠i->f j=0):xs n f=f i:=by
 induction n with
 | zero=>omega
 | succ n d=>
  by_cases e:i=n;·subst e;rw[xs,zG i f (λj o=>h j ω₁ ω₁),UInt8.zero_xor]
  ·rw[xs,d ω₁ (λj o p=>h j ω₁ p),h n ω₁ ω₁,pA]
def zI(n:Nat)(f g:Nat->UInt8):xs n f ^^^ xs n g=xs n (λj=>f j ^^^ g j):=by
 induction n with
 | zero=>exact qG.symm ▸ rfl
 | succ n d=>rw[xs,xs,xs,rk,d]
def zH(n:Nat)(c:UInt8)(f:Nat->UInt8):bp c (xs n f)=xs n (λj=>bp c (f j)):=by
 induction n with
 | zero=>exact kY c
 | succ n d=>rw[xs,rJ,d,xs]
def FK(n r i:Nat)(f:Nat->UInt8)(o:r<n)(p:i<n)(q:r≠i)(h:∀j,j<n->j≠r->j≠i->f j=0):xs n f=f r ^^^ f i:=by
 have e:xs n f=xs n (λj=>(if j=r then f r else 0) ^^^ (if j=i then f i else 0)):=by refine rh n _ _ λj z=>?_;grind
 rw[e,<- zI,vt n r _ o (λj _ d=>by simp[d]),vt n i _ p (λj _ d=>by simp[d])];simp
def FM(n:Nat)(f:Nat->UInt8):xs n f=fR ((List.range n).map f):=by
 induction n with
 | zero=>rfl
 | succ n d=>rw[xs,d,jD,gq,FI];simp[fR]
def FH(l:List Nat)(f:Nat->UInt8)(p:Nat->Bool)(h:∀x∈l,p x=false->f x=0):fR (l.map f)=fR ((l.filter p).map f):=by
 induction l with
 | nil=>rfl
 | cons x l d=>
  rw[kLQb,fR,d (λy o=>h y (by simp[o])),vg];cases q:p x;·grind
  ·simp[fR]
def lX(A:Nat->Nat->UInt8)(c:Nat):Nat->Nat->Nat
 | 0,p=>p
 | f+1,p=>if A p c=0 then lX A c f (p+1)else p
def iA(A:Nat->Nat->UInt8)(n i:Nat):Nat:=lX A i (n-i) i
def et(A:Nat->Nat->UInt8)(i p:Nat):Nat->Nat->UInt8:=λr j=>A (if r=i then p else if r=p then i else r) j
def jr(A:Nat->Nat->UInt8)(i:Nat)(c:UInt8):Nat->Nat->UInt8:=λr j=>if r=i then bp c (A i j)else A r j
def cP(A:Nat->Nat->UInt8)(i K:Nat):Nat->Nat->UInt8:=λr j=>if r<K/\r≠i then A r j ^^^ bp (A r i) (A i j)else A r j
def iV(A:Nat->Nat->UInt8)(n i:Nat):Nat->Nat->UInt8:=jr (et A i (iA A n i)) i (ft (A (iA A n i) i))
def nE(A:Nat->Nat->UInt8)(n i:Nat):Nat->Nat->UInt8:=cP (iV A n i) i n
def gt(A:Nat->Nat->UInt8)(n:Nat):Nat->Nat->Nat->UInt8
 | 0=>A
 | i+1=>nE (gt A n i) n i
def J1(A:Nat->Nat->UInt8)(c:Nat):∀f p,p<=lX A c f p/\lX A c f p<=p+f/\(∀q,p<=q->q<lX A c f p->A q c=0)/\(lX A c f p<p+f->A (lX A c f p) c≠0):=by
 intro f
 induction f with
 | zero=>intro p;rw[lX];exact⟨auQb _,auQb _,λq h1 h2=>by omega,λh=>by omega⟩
 | succ f d=>
  intro p;rw[lX];by_cases h:A p c=0;·grind
  ·grind
structure mr (A:Nat->Nat->UInt8) (n i:Nat):Prop where
 ge:i<=iA A n i
 lt:iA A n i<n
 ne:A (iA A n i) i≠0
 zero:∀q,i<=q->q<iA A n i->A q i=0
def J0(A:Nat->Nat->UInt8)(n i:Nat)(z:i<n)(h:¬∀q,i<=q->q<n->A q i=0):mr A n i:=by
 obtain⟨h1,h2,h3,h4⟩:=J1 A i (n-i) i;have d:iA A n i<n:=by apply pF;intro o;refine h λq p D=>h3 q p ?_;unfold iA at o;omega
 exact⟨h1,d,h4 (by unfold iA at d;omega),h3⟩
def fu(A:Nat->Nat->UInt8)(n r:Nat)(v:Nat->UInt8):UInt8:=xs n λj=>bp (A r j) (v j)
def Mz(A:Nat->Nat->UInt8)(n i p:Nat)(v:Nat->UInt8)(d:i<n)(o:p<n)(h:∀r,r<n->fu (et A i p) n r v=0):∀r,r<n->fu A n r v=0:=by
 intro r q;by_cases h1:r=i
 ·subst h1;have:=h p o;unfold fu et at this;by_cases e:p=r;·subst e;simpa [fu] using this
  ·simpa [fu,e] using this
 ·by_cases h2:r=p;·subst h2;have:=h i d;simpa [fu,et] using this
  ·have:=h r q;simpa [fu,et,h1,h2] using this
def M5(A:Nat->Nat->UInt8)(n i:Nat)(c:UInt8)(v:Nat->UInt8)(d:c≠0)(h:∀r,r<n->fu (jr A i c) n r v=0):∀r,r<n->fu A n r v=0:=by
 intro r o;have h2:=h r o;by_cases h1:r=i;·subst h1;refine rK c _ d ?_;unfold fu;rw[zH,<- h2];unfold fu jr;exact rh n _ _ λj _=>by simp[nM]
 ·simpa [fu,jr,h1] using h2
def M6(A:Nat->Nat->UInt8)(n i:Nat)(v:Nat->UInt8)(o:i<n)(h:∀r,r<n->fu (cP A i n) n r v=0):∀r,r<n->fu A n r v=0:=by
 have p:fu A n i v=0:=by simpa [fu,cP] using h i o
 intro r d;by_cases h1:r=i;·grind
 ·have h2:=h r d;have e:fu (cP A i n) n r v=fu A n r v ^^^ bp (A r i) (fu A n i v):=(by unfold fu;rw[zH,zI];refine rh n _ _ λj _=>?_;simp only[cP,d,h1,ne_eq,not_false_eq_true,and_self,jh];rw[sQ,nM]);rw[e,p,kY,pA]at h2;exact h2
def M0(A:Nat->Nat->UInt8)(n i:Nat)(v:Nat->UInt8)(d:i<n)(o:mr A n i)(h:∀r,r<n->fu (nE A n i) n r v=0):∀r,r<n->fu A n r v=0:=
 Mz A n i _ v d o.lt (M5 _ n i _ v (xQ _ o.ne) (M6 _ n i v d h))
def yT(A:Nat->Nat->UInt8)(n i:Nat):Prop:=∀c,c<i->∀r,r<n->A r c=if r=c then 1 else 0
def Gt(A:Nat->Nat->UInt8)(n i:Nat)(z:i<n)(p:mr A n i)(q:yT A n i):yT (nE A n i) n (i+1):=by
 have D:∀c,c<i->∀r,r<n->iV A n i r c=if r=c then 1 else 0:=by
  intro c d r h;have h1:=p.ge;have h2:=p.lt;unfold iV jr et;by_cases e:r=i;·subst e;rw[anQb rfl,anQb rfl,q c d _ h2,ae ω₁,ae ω₁,kY]
  ·rw[ae e,ae e];by_cases o:r=iA A n i;·rw[anQb o,q c d i z,ae ω₁,ae ω₁]
   ·rw[ae o,q c d r h]
 have F:iV A n i i i=1:=by unfold iV jr et;rw[anQb rfl,anQb rfl,mR,oQ _ p.ne]
 intro c d r h;unfold nE cP;by_cases e:r=i;·grind
 ·rw[anQb ⟨h,e⟩];by_cases o:c=i;·subst o;rw[F,pV,qG,ae e]
  ·rw[D c ω₁ r h,D c ω₁ i z,ae (c:=i=c) ω₁,kY,pA]
def pq(A:Nat->Nat->UInt8)(n:Nat):Prop:=∀v:Nat->UInt8,(∀r,r<n->fu A n r v=0)->∀j,j<n->v j=0
def LK(A:Nat->Nat->UInt8)(n:Nat)(z:pq A n):∀i,i<=n->yT (gt A n i) n i/\(∀v:Nat->UInt8,(∀r,r<n->fu (gt A n i) n r v=0)->∀r,r<n->fu A n r v=0)/\∀t,t<i->mr (gt A n t) n t:=by
 intro i
 induction i with
 | zero=>exact λ_=>⟨λc L=>by omega,λv h=>h,λt D=>by omega⟩
 | succ i F=>
  intro M;obtain⟨h1,h2,h3⟩:=F ω₁;have p:mr (gt A n i) n i:=by
   refine J0 _ n i ω₁ λG=>?_;have key:=z (λj=>if j<i then gt A n i j i else if j=i then 1 else 0) (h2 _ λr d=>?_) i ω₁;·grind
   ·unfold fu;by_cases q:r<i
    ·rw[FK n r i _ d ω₁ ω₁];·rw[h1 r q r d];simp[q,rG,pV]
     ·intro j I J K;by_cases o:j<i;·rw[h1 j o r d,ae (jj J),pJ]
      ·simp[o,K,kY]
    ·refine zG n _ λj I=>?_;by_cases o:j<i;·rw[h1 j o r d,ae ω₁,pJ]
     ·by_cases e:j=i;·subst e;rw[G r ω₁ d,pJ]
      ·simp[o,e,kY]
  refine⟨Gt _ n i ω₁ p h1,λv h=>h2 v (M0 _ n i v ω₁ p h),λt D=>?_⟩;grind
def LJ(A:Nat->Nat->UInt8)(n:Nat)(d:pq A n)(i:Nat)(h:i<n):mr (gt A n i) n i:=(LK A n d n (auQb _)).2.2 i h
def dy(M:Nat->Nat->UInt8)(n:Nat):Nat->Nat->UInt8:=λr j=>if j<n then M r j else if j-n=r then 1 else 0
def Ol(M:Nat->Nat->UInt8)(n:Nat)(h:pq M n):pq (dy M n) n:=by
 intro v d;refine h v λr o=>?_;rw[<- d r o];exact rh n _ _ λj p=>by simp[dy,p]
def LM(M d:Nat->Nat->UInt8)(n:Nat)(h:pq M n)(p:∀r,r<n->∀j,j<n->d r j=M r j):pq d n:=by
 intro v q;refine h v λr o=>?_;rw[<- q r o];exact rh n _ _ λj z=>by rw[p r o j z]
def H8(M:Nat->Nat->UInt8)(n:Nat)(h:∀r,r<n->∀j,j<n->M r j=if r=j then 1 else 0):∀i,i<=n->∀r,r<n->∀j,gt (dy M n) n i r j=dy M n r j:=by
 intro i
 induction i with
 | zero=>intro _ r _ j;rfl
 | succ i o=>
  intro A r d j;have o:=o ω₁;have q:iA (gt (dy M n) n i) n i=i:=(by unfold iA;obtain⟨f,z⟩:∃f,n-i=f+1:=⟨n-i-1,ω₁⟩;rw[z,lX,o i ω₁,ae];simp only[dy,show i<n from by omega,jh];grind);have h1:dy M n i i=1:=(by simp only[dy,show i<n from by omega,jh];rw[h i ω₁ i ω₁];simp);have p:∀r,r<n->∀j,iV (gt (dy M n) n i) n i r j=dy M n r j:=by
   intro r d j;unfold iV jr et;rw[q];by_cases e:r=i;·subst e;rw[anQb rfl,anQb rfl,o r d,o r d,h1,Li,rG]
   ·grind
  show cP _ i n r j=_;unfold cP;by_cases e:r=i;·grind
  ·rw[anQb ⟨d,e⟩,p r d j,p r d i,show dy M n r i=0 from ?_,pJ,pA];simp only[dy,show i<n from by omega,jh];grind
def kR(k t j:Nat):UInt8:=if t<k then(if t=j then 1 else 0)else ft (UInt8.ofNat (t ^^^ j))
def Kg:∀(n:Nat) (l:List Nat),l.Nodup->(∀x∈l,x<n)->l.length<=n:=by
 intro n
 induction n with
 | zero=>
  intro l _ h;obtain _ | ⟨x,l⟩:=l;·exact auQb _
  ·exact absurd (h x σ₁) ω₁
 | succ n o=>
  intro l d h;have := o (l.erase n) (d.erase n) (fun x p => by
    have h1 := (d.mem_erase_iff).1 p;have h2 := h x h1.2
    omega)
  rw[List.length_erase]at this;split at this <;> omega
def wX{a b:Nat}(d:a<256)(o:b<256)(h:UInt8.ofNat a=UInt8.ofNat b):a=b:=by
 rw[<- mO a d,<- mO b o,h]
def xo{α β:Type}(f:α->β):∀(l:List α),l.Nodup->(∀x∈l,∀y∈l,f x=f y->x=y)->(l.map f).Nodup:=by
 intro l
 induction l with
 | nil=>intro _ _;exact List.nodup_nil
 | cons x l d=>grind
def Gl(k m:Nat)(ai:k+m<=255)(d:Nat->Nat)(L:∀r s,r<s->s<k->d r<d s)(O:∀r,r<k->d r<k+m):pq (λr j=>kR k (d r) j) k:=by
 intro v M
 apply pF
 intro Q
 obtain⟨R,U⟩:=Classical.not_forall.1 Q
 obtain⟨V,W⟩:=Classical.not_imp.1 U
 have X:∀r,r<k->∀s,s<k->d r=d s->r=s:=by
  intro r o s F e
  rcases Nat.lt_trichotomy r s with h | h | h
  ·have:=L r s h F;omega
  ·exact h
  ·have:=L s r h o;omega
 -- those that are lost are not among the places
 have aj:∀r,r<k->d r<k->v (d r)=0:=by
  intro r o G
  have:=M r o
  unfold fu at this
  rw[vt k (d r) _ G]at this
  ·simpa [kR,G,rG] using this
  ·intro j _ Z
   simp[kR,G,jj Z,pJ]
 let Y:=(List.range k).filter λj=>v j != 0
 let T:=(List.range k).map d
 have hY:Y.Nodup:=List.nodup_range.filter _
 have hT:=xo _ _ List.nodup_range (λr o s F e=>X r (im.1 o) s (im.1 F) e)
 have ac:Y.length<=(T.filter λt=>decide (k<=t)).length:=by
  have h1:(Y++T.filter λt=>decide (t<k)).length<=k:=by
   refine Kg k _ ?_ ?_
   ·rw[List.nodup_append]
    grind
   ·intro x q
    rcases iI.1 q with h | h
    ·exact im.1 (nu.1 h).1
    ·simpa using (nu.1 h).2
  have h2:=List.length_eq_countP_add_countP (λt=>decide (t<k)) (l:=T)
  rw[aMQb]at h1
  have h3:T.length=k:=by simp[T]
  rw[List.countP_eq_length_filter,List.countP_eq_length_filter]at h2
  have h4:(T.filter λa=>decide (¬(decide (a<k)=true)))=T.filter λt=>decide (k<=t):=by
   refine List.filter_congr λx _=>?_
   simp
  rw[h4]at h2
  omega
 have z:∀j∈Y,j<k/\v j≠0:=λj p=>⟨im.1 (nu.1 p).1,by simpa using (nu.1 p).2⟩
 have D:∀t∈T.filter (λt=>decide (k<=t)),∃r,r<k/\t=d r/\k<=t/\t<k+m:=by
  intro t A
  obtain⟨h1,h2⟩:=nu.1 A
  obtain⟨r,o,rfl⟩:=jEQb.1 h1
  exact⟨r,im.1 o,rfl,by simpa using h2,O r (im.1 o)⟩
 refine N7 (Y.map UInt8.ofNat) ((T.filter λt=>decide (k<=t)).map UInt8.ofNat) (λy=>v y.toNat) ?_ ?_ ?_ ?_ ?_ ?_ ?_
 ·intro e
  have:R∈Y:=nu.2 ⟨im.2 V,by simpa using W⟩
  rw[List.map_eq_nil_iff]at e
  rw[e]at this
  simp at this
 ·simpa using ac
 ·exact xo _ _ hY λa I b J e=>wX (by have:=(z a I).1;omega) (by have:=(z b J).1;omega) e
 ·exact xo _ _ (hT.filter _) λa I b J e=>by
    obtain⟨_,_,_,_,h1⟩:=D a I
    obtain⟨_,_,_,_,h2⟩:=D b J
    exact wX ω₁ ω₁ e
 ·intro x q K
  obtain⟨t,A,rfl⟩:=jEQb.1 q
  obtain⟨j,p,e⟩:=jEQb.1 K
  obtain⟨_,_,_,h0,h1⟩:=D t A
  have:=(z j p).1
  have:=wX ω₁ ω₁ e
  omega
 ·intro y K
  obtain⟨j,p,rfl⟩:=jEQb.1 K
  have:=z j p
  rw[mO j ω₁]
  exact this.2
 ·intro x q
  obtain⟨t,A,rfl⟩:=jEQb.1 q
  obtain⟨r,o,rfl,h0,h1⟩:=D t A
  have h2:=M r o
  unfold fu at h2
  rw [FM, FH _ _ (fun j => v j != 0) (fun j _ p => by
    have : v j = 0 := by simpa using p
    rw[this, kY])] at h2
  rw[nyQb,<- h2]
  congr 1
  refine lP λj p=>?_
  have ak:=z j p
  simp only[Function.comp]
  rw[mO j ω₁,mR]
  congr 1
  rw[kR,ae ω₁,UInt8.ofNat_xor]
def aW(C:Nat)(f:Nat->Nat->UInt8)(n:Nat):U0₁:=(List.range n).map λt=>f (t / C) (t%C)
def eg(C:Nat)(f:Nat->Nat->UInt8)(n:Nat):(aW C f n).length=n:=by simp[aW]
def pd(C i j:Nat)(d:j<C):(i*C+j) / C=i:=by
 rw[g7,uT ω₁,oh d,g8]
def oS(C i j:Nat)(d:j<C):(i*C+j)%C=j:=by
 rw[g7,Nat.mul_add_mod,m7 d]
def BC(C:Nat)(f:Nat->Nat->UInt8)(i j:Nat)(d:j<C):aW C f (i*C+(j+1))=aW C f (i*C+j)++[f i j]:=by
 rw[<- qJ];unfold aW;rw[jD,gq,kLQb,qNQb,pd C i j d,oS C i j d]
def BE(C:Nat)(f:Nat->Nat->UInt8)(i:Nat):aW C f ((i+1)*C+0)=aW C f (i*C+C):=by rw[bPQb];simp
def tG(C:Nat)(f g:Nat->Nat->UInt8)(n:Nat)(h:∀t,t<n->f (t / C) (t%C)=g (t / C) (t%C)):aW C f n=aW C g n:=by
 unfold aW;exact lP λt d=>h t (im.1 d)
def Jq(C:Nat)(f:Nat->Nat->UInt8)(n t:Nat)(h:t<n):(aW C f n).getD t 0=f (t / C) (t%C):=by
 rw[ce _ _ _ (by rw[eg];exact h)];simp[aW]
def tH(C:Nat)(f:Nat->Nat->UInt8)(R i j:Nat)(h:i<R)(d:j<C):(aW C f (R*C)).getD (i*C+j) 0=f i j:=by
 have:i*C+j<R*C:=by have:=cY C (show i+1<=R by omega);rw[bPQb]at this;omega
 rw[Jq _ _ _ _ this,pd C i j d,oS C i j d]
def cw(C:Nat)(f:Nat->Nat->UInt8)(i:Nat):U0₁:=(List.range C).map (f i)
def iL(C:Nat)(f:Nat->Nat->UInt8)(i:Nat):(cw C f i).length=C:=by simp[cw]
def rD(C:Nat)(f:Nat->Nat->UInt8)(R i:Nat)(h:i<R):(((aW C f (R*C)).take ((i+1)*C)).drop (i*C))=cw C f i:=by
 have h1:(i+1)*C=i*C+C:=by rw[bPQb];omega
 have h2:i*C+C<=R*C:=by have:=cY C (show i+1<=R by omega);omega
 apply jI;·rw[bn,aP,eg,iL];omega
 ·intro j o d;rw[iL]at d;simp only[pD,n5,aW,cw,jm,lq];rw[pd C i j d,oS C i j d]
def i9(f:Nat->Nat->UInt8)(i:Nat)(g:Nat->UInt8):Nat->Nat->UInt8:=λr j=>if r=i then g j else f r j
def wL(C:Nat)(f:Nat->Nat->UInt8)(R i:Nat)(p:i<R)(g:Nat->UInt8):(aW C f (R*C)).take (i*C)++((List.range C).map g++(aW C f (R*C)).drop (i*C+C))=aW C (i9 f i g) (R*C):=by
 have h2:i*C+C<=R*C:=by have:=cY C (show i+1<=R by omega);rw[bPQb]at this;omega
 apply jI;·simp only[aMQb,aP,bn,eg,fw,ot];omega
 ·intro t q h;rw[eg]at h;by_cases d:t<i*C;·rw[iy (by rw[aP,eg];omega)];simp only[n5,aW,jm,lq,i9];have:t / C<i:=(pB (by rcases kJ C with e | e;(subst e;simp at d);exact e)).2 d;grind
  ·rw[kM (by rw[aP,eg];omega)];by_cases h1:t<i*C+C;·rw[iy (by simp only[aP,eg,fw,ot];omega)];simp only[aP,jm,lq,aW,i9];have z:t / C=i:=(by have:=pd C i (t-i*C) ω₁;grind);have A:t%C=t-i*C:=(by have:=oS C i (t-i*C) ω₁;grind);grind
   ·rw[kM (by simp only[aP,eg,fw,ot];omega)];simp only[pD,aP,fw,ot,aW,jm,lq,i9];have hC:0<C:=(by grind);have o:i*C+C+(t-min (i*C) (R*C)-C)=t:=ω₁;rw[o,ae];intro e;have:=(pB hC (x:=t) (y:=i+1)).1 ω₁;grind
def Jo(C:Nat)(f:Nat->Nat->UInt8)(n i j:Nat)(d:j<C)(x:UInt8):(aW C f n).set (i*C+j) x=aW C (λr c=>if r=i/\c=j then x else f r c) n:=by
 apply jI;·rw[nz,eg,eg]
 ·intro t h1 h2;by_cases e:t=i*C+j;·subst e;rw[List.getElem_set_self];simp only[aW,jm,lq];rw[pd C i j d,oS C i j d,anQb ⟨rfl,rfl⟩]
  ·rw[ve (λh=>e h.symm)];simp only[aW,jm,lq];rw[ae];rintro⟨h3,h4⟩;have:=sH t C;grind
def O6(l b:U0₁)(c:UInt8):gT l c.toNat b=l.zipWith (λx y=>x ^^^ bp c y) b:=by
 unfold gT;congr 1;funext x y;exact fO.1 (by rw[UInt8.toNat_xor,ju,mO _ (ix (n:=8) x.toNat_lt (kp _ _ c.toNat_lt))])
def O3(n:Nat)(f:Nat->Nat->UInt8)(i k:Nat)(c:UInt8):gT (cw n f i) c.toNat (cw n f k)=(List.range n).map λj=>f i j ^^^ bp c (f k j):=by
 rw[O6];unfold cw;simp
def Jg(f:Nat->Nat->UInt8)(i j:Nat):i9 (i9 f i (f j)) j (f i)=et f i j:=by
 funext r c;unfold i9 et;grind
def fI(M:U0₁)(C:Nat):Nat->Nat->UInt8:=λr j=>M.getD (r*C+j) 0
def BF(M:U0₁)(C R:Nat)(h:M.length=R*C):aW C (fI M C) (R*C)=M:=by
 apply jI;·rw[eg,h]
 ·intro t h1 h2;simp only[aW,jm,lq,fI];rw[g7,sH,ce _ _ _ h2]
def ew(i j:Nat):UInt8:=if i=j then 1 else 0
def eF(n:Nat):U0₁:=aW n ew (n*n)
def ee(k m:Nat):U0₁:=aW k (kR k) ((k+m)*k)
def cK(M:U0₁)(C:Nat)(d:List Nat):U0₁:=(d.map λr=>(M.take ((r+1)*C)).drop (r*C)).flatten
def BM(k m:Nat)(d:List Nat)(h:∀r∈d,r<k+m):cK (ee k m) k d=aW k (λr j=>kR k (d.getD r 0) j) (d.length*k):=by
 have key:∀n,n<=d.length->cK (ee k m) k (d.take n)=aW k (λr j=>kR k (d.getD r 0) j) (n*k):=by
  intro n
  induction n with
  | zero=>intro _;simp[cK,aW]
  | succ n p=>intro A;have q:d.take (n+1)=d.take n++[d[n]]:=(by rw[qK,cQ ω₁];rfl);have z:cK (ee k m) k (d.take n++[d[n]])=cK (ee k m) k (d.take n)++((ee k m).take ((d[n]+1)*k)).drop (d[n]*k):=(by unfold cK;rw[gq,qP,kLQb,qNQb,vf,List.flatten_nil,iJ]);rw[q,z,p ω₁,ee,rD k (kR k) (k+m) _ (h _ (co _))];unfold aW cw;rw[bPQb,glQb,List.range_add,gq,nyQb];congr 1;refine lP λj o=>?_;have o:=im.1 o;simp only[Function.comp];rw[pd k n j o,oS k n j o,ce _ _ _ ω₁]
 grind
def CY(M:U0₁)(n:Nat):Nat->Nat->UInt8:=λr j=>gt (dy (fI M n) n) n n r (n+j)
def jO(M:U0₁)(n:Nat):U0₁:=aW n (CY M n) (n*n)
def zn(M:U0₁)(n:Nat):Prop:=∀i,i<n->mr (gt (dy (fI M n) n) n i) n i
def qw(d:List Nat)(n:Nat):Prop:=(∀r s,r<s->s<d.length->d.getD r 0<d.getD s 0)/\∀r∈d,r<n
def BN(k m:Nat)(p:k+m<=255)(d:List Nat)(q:d.length=k)(h:qw d (k+m)):zn (cK (ee k m) k d) k:=by
 intro i z;refine LJ _ k (Ol _ k (LM _ _ k (Gl k m p (λr=>d.getD r 0) (λr s h1 h2=>h.1 r s h1 ω₁) λr o=>?_) λr o j A=>?_)) i z;·rw[ce _ _ _ ω₁];exact h.2 _ (co _)
 ·rw[BM k m d h.2,q];exact tH k _ k r j o A
def IE(d:List Nat)(n:Nat)(h:qw d n):∀r,r<d.length->r<=d.getD r 0:=by
 intro r
 induction r with
 | zero=>intro _;omega
 | succ r p=>intro o;have h2:=h.1 r (r+1) ω₁ o;omega
def IF(o:List Nat)(n:Nat)(h:qw o n)(A:0<o.length)(q:o.getD (o.length-1) 0=o.length-1):∀r,r<o.length->o.getD r 0=r:=by
 have key:∀d r,r+d=o.length-1->o.getD r 0=r:=by
  intro d
  induction d with
  | zero=>intro r p;rw[g8]at p;rw[p];exact q
  | succ d z=>intro r p;have h1:=z (r+1) ω₁;have h2:=h.1 r (r+1) ω₁ ω₁;have h3:=IE o n h r ω₁;omega
 intro r p;exact key (o.length-1-r) r ω₁
def Lg(k m:Nat)(d:List Nat)(z:d.length=k)(h:qw d (k+m))(A:∀r,r<k->d.getD r 0=r):jO (cK (ee k m) k d) k=eF k:=by
 refine tG k _ _ _ λt D=>?_;have p:0<k:=by grind
 have o:=(pB p).2 D;have q:t%k<k:=jB _ p;unfold CY;rw[H8 _ k ?_ k (auQb _) _ o];·simp only[dy,ew,show ¬k+t%k<k by omega,if_false];grind
 ·intro r o j q;rw[BM k m d h.2,z,fI,tH k _ k r j o q,A r o,kR,anQb o]
def JS(y:Nat)(h:y<256):aO 1 y=y:=by rw[Cn 1 y ω₁ h];simpa using iR 256 _ Ca y h
def EG(l b:U0₁)(L:Nat)(h1:l.length=L)(h2:b.length=L):gT l (0:UInt8).toNat b=l:=by
 rw[uS];exact EF l b (by rw[h1,h2])
def O4(b:U0₁)(L:Nat)(h2:b.length=L):gT (List.replicate L 0) (1:UInt8).toNat b=b:=by
 rw[UInt8.toNat_one];apply jI;·rw[gT,List.length_zipWith,jF,h2,Nat.min_self]
 ·intro t h1 h2;simp only[gT,List.getElem_zipWith,List.getElem_replicate];rw[JS _ (iH _),uS,Nat.zero_xor,UInt8.ofNat_toNat]
def I4(n i:Nat)(d:List U0₁)(L:Nat)(o:i<n)(F:d.length=n)(A:∀p∈d,p.length=L)(j:Nat)(G:j<=n):eD (eF n) n i d L j=if i<j then d.getD i []else List.replicate L 0:=by
 have z:∀q,q<n->(d.getD q []).length=L:=λq I=>by rw[ce _ _ _ ω₁];exact A _ (co _)
 induction j with
 | zero=>rw[ae ω₁];rfl
 | succ j D=>
  have h:=z j ω₁;rw[eD,D ω₁,eF,tH n ew n i j o ω₁,ew];by_cases e:i=j;·subst e;rw[anQb rfl,ae ω₁,anQb ω₁];exact O4 _ L h
  ·rw[ae e];by_cases h2:i<j;·rw[anQb h2,anQb ω₁];exact EG _ _ L (z i o) h
   ·rw[ae h2,ae ω₁];exact EG _ _ L σ₁ h
def GN(d:List U0₁)(L:Nat)(h:∀p∈d,p.length=L):jo (eF d.length) d.length d.length d L=d:=by
 apply jI;·rw[rr]
 ·intro i h1 h2;rw[vK _ _ _ _ _ i h2,I4 _ i d L h2 rfl h _ (auQb _),anQb h2,ce _ _ _ h2]
def ig(k m c:Nat)(d:List Nat)(l:List U0₁):List U0₁:=jo (jO (cK (ee k m) k d) k) k k l c
def ym(k m c:Nat)(d:List Nat)(l:List U0₁):(ig k m c d l).length=k:=rr _ _ _ _ _
def MP(k m c:Nat)(d:List Nat)(l:List U0₁)(o:d.length=k)(q:l.length=k)(h:qw d (k+m))(z:∀p∈l,p.length=c)(A:∀r,r<k->d.getD r 0=r):ig k m c d l=l:=by
 unfold ig;rw[Lg k m d o h A,<- q];exact GN l c z
def uk(k m c:Nat)(d:List Nat)(l:List U0₁)(q:l.length=k)(h:∀p∈l,p.length=c):∀p∈ig k m c d l,p.length=c:=by
 intro p o;obtain⟨i,_,rfl⟩:=jEQb.1 o;exact oF _ _ _ _ _ _ h ω₁
