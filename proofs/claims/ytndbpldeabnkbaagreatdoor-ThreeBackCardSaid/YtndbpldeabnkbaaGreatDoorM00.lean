/- Lemmas for ThreeTurned. -/
set_option linter.all false
set_option maxHeartbeats 8000000
namespace Go.Fk
abbrev Z0:=List UInt8
def ω{p:Prop}(h:p:=by omega):p:=h
def δ{p:Prop}(h:p:=by decide):p:=h
def σ{p:Prop}(h:p:=by simp):p:=h
abbrev am:=@List.length_append
abbrev ae:=@if_neg
abbrev al:=@Nat.le_refl
abbrev af:=@if_pos
abbrev ar:=@Nat.zero_le
abbrev aA:=@List.length_take
abbrev ay:=@Nat.le_trans
abbrev bq:=@List.getD_eq_getElem?_getD
abbrev bj:=@List.getElem?_eq_getElem
abbrev aL:=@List.length_cons
abbrev aN:=@List.length_drop
abbrev bQ:=@Nat.mul_le_mul_right
abbrev f8:=@List.take_succ_eq_append_getElem
abbrev br:=@decide_eq_false
abbrev bJ:=@List.getElem_mem
abbrev bH:=@Nat.mul_le_mul
abbrev be:=@Nat.add_mul
abbrev gE:=@List.drop_eq_getElem_cons
abbrev fp:=@Nat.pow_le_pow_right
abbrev en:=@decide_eq_true_eq
abbrev kd:=@List.eq_nil_of_length_eq_zero
abbrev dN:=@List.mem_range
abbrev gD:=@List.take_succ_cons
abbrev eD:=@List.map_append
abbrev dD:=@List.map_cons
abbrev iW:=@List.getElem?_eq_none
abbrev eP:=@UInt8.toNat_inj
abbrev fL:=@Bool.and_eq_true
abbrev dq:=@Nat.add_zero
abbrev fJ:=@List.nil_append
abbrev iV:=@List.map_congr_left
abbrev kI:=@List.getElem_append_left
abbrev jC:=@List.take_append_drop
abbrev dX:=@Nat.mul_comm
abbrev ee:=@List.mem_map
abbrev gT:=@List.ext_getElem
abbrev dC:=@Nat.one_mul
abbrev kH:=@List.length_singleton
abbrev jp:=@UInt8.toNat_ofNat'
abbrev jV:=@Nat.xor_lt_two_pow
abbrev gQ:=@List.sum_cons
abbrev gR:=@List.mem_cons
abbrev kE:=@Nat.eq_zero_or_pos
abbrev kG:=@List.pairwise_cons
abbrev gC:=@Nat.pow_succ
abbrev jr:=@List.range_succ
abbrev jD:=@List.mem_append
abbrev iH:=@Nat.zero_add
abbrev lm:=@List.cons_append
abbrev jq:=@Nat.add_assoc
abbrev lh:=@Nat.two_pow_pos
abbrev q6:=@List.getElem?_append_left
abbrev nJ:=@Nat.lt_of_lt_of_le
abbrev lj:=@List.take_zero
abbrev jE:=@List.map_map
abbrev oz:=@List.flatten_append
abbrev rt:=@List.pairwise_iff_getElem
abbrev mX:=@List.filter_cons
abbrev ow:=@List.mem_singleton
abbrev mW:=@List.length_set
abbrev nI:=@Nat.mod_eq_of_lt
abbrev sE:=@List.getElem?_append_right
abbrev oy:=@List.flatten_cons
abbrev jB:=@Nat.mod_lt
abbrev sw:=@decide_eq_false_iff_not
abbrev nH:=@UInt8.toNat_lt
abbrev ot:=@List.sum_append
abbrev qr:=@Nat.lt_trichotomy
abbrev qz:=@List.getElem_take
abbrev mV:=@Nat.lt_or_ge
abbrev rp:=@Nat.mul_left_comm
abbrev uk:=@Nat.div_div_eq_div_mul
abbrev uu:=@List.drop_of_length_le
abbrev q7:=@List.cons.injEq
abbrev sF:=@List.filter_append
abbrev pz:=@Nat.xor_assoc
abbrev pA:=@Nat.mul_assoc
abbrev oq:=@Nat.add_comm
abbrev s9:=@List.getElem_drop
abbrev wA:=@List.mem_cons_of_mem
abbrev mr:=@and_true
abbrev uw:=@List.countP_cons
abbrev wH:=@Bool.or_eq_true
abbrev zi:=@List.mem_cons_self
abbrev ug:=@Nat.xor_zero
abbrev JT:=@Nat.testBit_eq_decide_div_mod_eq
abbrev C0:=@List.getElem_cons_succ
abbrev C4:=@List.countP_le_length
abbrev Cw:=@List.pairwise_append
abbrev Cz:=@List.getElem_of_mem
def cU:Z0->Nat
 | []=>0
 | b::l=>b.toNat+256*cU l
def Rj(l:Z0)(b:UInt8):cU (l++[b])=cU l+b.toNat*256^l.length:=by
 induction l with
 | nil=>simp[cU]
 | cons c l d=>rw[lm,cU,cU,d,aL,gC,Nat.mul_add,<- jq];congr 1;rw[rp,dX 256 (256^l.length)]
def rQ(l:Z0):cU l<256^l.length:=by
 induction l with
 | nil=>simp[cU]
 | cons c l d=>have:=c.toNat_lt;rw[cU,aL,gC];omega
def xS(x b k:Nat)(h:x<2^k):x ||| (b*2^k)=x+b*2^k:=by
 have:=Nat.two_pow_add_eq_or_of_lt h b;rw[Nat.or_comm,dX b,<- this,oq]
def Ri(l:Z0)(i:Nat)(h:i<l.length):cU (l.take (i+1))=cU (l.take i) ||| (l[i].toNat*2^(8*i)):=by
 have e:l.take (i+1)=l.take i++[l[i]]:=by rw[List.take_add_one,bj h];rfl
 have d:(l.take i).length=i:=by rw[aA];omega
 have o:(256:Nat)^i=2^(8*i):=by rw[Nat.pow_mul]
 have z:=rQ (l.take i);rw[d,o]at z;rw[e,Rj,d,o,xS _ _ _ z]
def gz(i:Nat)(x:Nat):Z0->Nat × Nat × Nat
 | []=>(0,0,1)
 | c::t=>if(i=9/\¬c.toNat=1)\/(0<i/\c.toNat=0)then(0,0,2)else if c.toNat<128 then(x+c.toNat%128*128^i,i+1,0)else gz (i+1) (x+c.toNat%128*128^i) t
def cI(l:Z0):Nat × Nat × Nat:=gz 0 0 l
def AO(l:Z0):∀(i x:Nat),i<=9->x<128^i->(gz i x l).1<18446744073709551616/\((gz i x l).2.2=0->i<(gz i x l).2.1/\(gz i x l).2.1<=i+l.length/\(gz i x l).2.1<=10)/\(¬(gz i x l).2.2=0->(gz i x l).1=0/\(gz i x l).2.1=0/\(gz i x l).2.2<=2):=by
 induction l with
 | nil=>intro i x F o;simp[gz]
 | cons c t z=>
  intro i x F o;unfold gz;split;·simp
  ·rename_i G;have I:c.toNat%128<128:=jB _ ω;have A:x+c.toNat%128*128^i<128^(i+1):=(by have:c.toNat%128*128^i<=127*128^i:=bQ _ ω;rw[gC];omega);by_cases J:i=9
   ·have K:c.toNat=1:=ω;subst J;rw[af ω,K];have d:(128:Nat)^9=9223372036854775808:=δ;rw[d]at o;refine⟨?_,?_,?_⟩;·have D:x+1%128*128^9=x+9223372036854775808:=(by rw[d]);show x+1%128*128^9<_;rw[D];clear A I d D G z;omega
    ·intro _;show 9<9+1/\9+1<=9+(c::t).length/\9+1<=10;simp only[aL];omega
    ·intro h;exact absurd rfl h
   ·have L:(128:Nat)^(i+1)<=128^9:=fp ω ω;have d:(128:Nat)^9=9223372036854775808:=δ;split
    ·refine⟨?_,?_,?_⟩;·show x+c.toNat%128*128^i<_;omega
     ·intro _;simp;omega
     ·intro h;simp at h
    ·obtain⟨h1,h2,h3⟩:=z (i+1) _ ω A;refine⟨h1,λh=>?_,h3⟩;obtain⟨a,b,c⟩:=h2 h;refine⟨ω,?_,c⟩;simp only[aL];omega
def Ft(l:Z0):(cI l).1<18446744073709551616:=(AO l 0 0 ω σ).1
def AN(l:Z0)(h:(cI l).2.2=0):0<(cI l).2.1/\(cI l).2.1<=l.length/\(cI l).2.1<=10:=by
 have:=(AO l 0 0 ω σ).2.1 h;rw[iH]at this;exact this
def PQ(l:Z0)(h:¬(cI l).2.2=0):(cI l).1=0/\(cI l).2.1=0/\(cI l).2.2<=2:=(AO l 0 0 ω σ).2.2 h
def az(most:Nat)(l:Z0):Nat × Nat × Nat:=
 if(cI l).2.2=0 then(if most<(cI l).1 then(0,0,6)else cI l)else(0,0,(cI l).2.2)
def nz(most:Nat)(l:Z0)(h:(az most l).2.2=0):0<(az most l).2.1/\(az most l).2.1<=l.length/\(az most l).1<=most:=by
 unfold az at *;split at h
 ·rename_i d;split at h;·simp at h
  ·rename_i h1;rw[af d,ae h1];have:=AN l d;omega
 ·rename_i d;exact absurd h d
def QT(most:Nat)(l:Z0)(h:¬(az most l).2.2=0):(az most l).1=0/\(az most l).2.1=0/\(az most l).2.2<=6:=by
 unfold az at *;split at h
 ·rename_i d;split at h;·rename_i h1;rw[af d,af h1];simp
  ·exact absurd d h
 ·rename_i d;rw[ae d];have:=PQ l d;refine⟨rfl,rfl,?_⟩;show(cI l).2.2<=6;omega
structure Cs where
 at_:Nat
 er:Nat
def Cs.step(s:Cs)(r:Nat × Nat × Nat):Cs:=if s.er=0 then(if r.2.2=0 then⟨s.at_+r.2.1,0⟩else⟨s.at_,r.2.2⟩)else s
def Cs.val(s:Cs)(r:Nat × Nat × Nat):Nat:=if s.er=0/\r.2.2=0 then r.1 else 0
def Cs.num(s:Cs)(l:Z0):Nat × Cs:=(s.val (cI (l.drop s.at_)),s.step (cI (l.drop s.at_)))
def Cs.int(s:Cs)(l:Z0)(most:Nat):Nat × Cs:=(s.val (az most (l.drop s.at_)),s.step (az most (l.drop s.at_)))
def Cs.fail(s:Cs)(e:Nat):Cs:=if s.er=0 then⟨s.at_,e⟩else s
def Cs.fin(s:Cs)(l:Z0):Cs:=if s.er=0/\s.at_<l.length then⟨s.at_,2⟩else s
def Cs.take(s:Cs)(l:Z0)(k:Nat):Z0 × Cs:=
 if s.er=0 then(if l.length<s.at_+k then([],⟨s.at_,1⟩)else((l.drop s.at_).take k,⟨s.at_+k,0⟩))else([],s)
def Cs.byte(s:Cs)(l:Z0):Nat × Cs:=((((s.take l 1).1).getD 0 0).toNat,(s.take l 1).2)
def Cs.fixed(s:Cs)(l:Z0)(k:Nat):Nat × Cs:=(cU (s.take l k).1,(s.take l k).2)
def fO(most:Nat)(l:Z0):Z0 × Nat × Nat:=
 if(az most l).2.2=0 then(if l.length<(az most l).2.1+(az most l).1 then([],0,1)else((l.drop (az most l).2.1).take (az most l).1,(az most l).2.1+(az most l).1,0))else([],0,(az most l).2.2)
def Cs.text(s:Cs)(l:Z0)(most:Nat):Z0 × Cs:=
 (if s.er=0 then(fO most (l.drop s.at_)).1 else [],s.step (0,(fO most (l.drop s.at_)).2))
def wU(most:Nat)(l:Z0)(h:(fO most l).2.2=0):0<(fO most l).2.1/\(fO most l).2.1<=l.length/\(fO most l).1.length<=most:=by
 unfold fO at *;split at h
 ·rename_i d;split at h;·simp at h
  ·rename_i h1;rw[af d,ae h1];have:=nz most l d;refine⟨?_,?_,?_⟩;·show 0<(az most l).2.1+(az most l).1;omega
   ·show(az most l).2.1+(az most l).1<=_;omega
   ·show(List.take _ _).length<=_;rw[aA];omega
 ·rename_i d;exact absurd h d
def Ld(most:Nat)(l:Z0)(h:¬(fO most l).2.2=0):(fO most l).1=[]/\(fO most l).2.1=0:=by
 unfold fO at *;split at h
 ·rename_i d;split at h;·rename_i h1;rw[af d,af h1];simp
  ·exact absurd rfl h
 ·rename_i d;rw[ae d];simp
def Cs.step_le(s:Cs)(r:Nat × Nat × Nat)(n:Nat)(h:s.at_<=n)(h2:r.2.2=0->r.2.1<=n-s.at_):(s.step r).at_<=n:=by
 unfold Cs.step;split
 ·split;·rename_i h3;have:=h2 h3;show s.at_+_<=n;omega
  ·exact h
 ·exact h
def Cs.num_le(s:Cs)(l:Z0)(h:s.at_<=l.length):(s.num l).2.at_<=l.length:=
 s.step_le _ _ h λe=>by have:=AN _ e;rw[aN]at this;omega
def Cs.int_le(s:Cs)(l:Z0)(most:Nat)(h:s.at_<=l.length):(s.int l most).2.at_<=l.length:=
 s.step_le _ _ h λe=>by have:=nz _ _ e;rw[aN]at this;omega
def Cs.text_le(s:Cs)(l:Z0)(most:Nat)(h:s.at_<=l.length):(s.text l most).2.at_<=l.length:=
 s.step_le _ _ h λe=>by have h2:=(wU _ _ e).2.1;rw[aN]at h2;exact h2
def Cs.take_le(s:Cs)(l:Z0)(k:Nat)(h:s.at_<=l.length):(s.take l k).2.at_<=l.length:=by
 unfold Cs.take;split
 ·split;·exact h
  ·show s.at_+k<=_;omega
 ·exact h
def dU(l:Z0)(i:Nat):Nat:=(l.getD (i / 8) 0).toNat / 2^(7-i%8)%2
def yJ(l:Z0)(i:Nat):dU l i=0\/dU l i=1:=by unfold dU;omega
def Ys(l:Z0):Z0:=(List.range (8*l.length)).map λi=>UInt8.ofNat (dU l i)
def aI(l:Z0)(a:Nat):Nat->Nat
 | 0=>0
 | n+1=>2*aI l a n+dU l (a+n)
def pS(l:Z0)(a n:Nat):aI l a n<2^n:=by
 induction n with
 | zero=>simp[aI]
 | succ n d=>have:=yJ l (a+n);rw[aI,gC];omega
def Fv(l:Z0)(a n:Nat):aI l a n=0↔∀i,i<n->dU l (a+i)=0:=by
 induction n with
 | zero=>simp[aI]
 | succ n d=>
  rw[aI];constructor
  ·intro h i o;rcases mV i n with h1 | h1;·exact d.1 ω i h1
   ·have e:i=n:=ω;subst e;omega
  ·intro h;have h1:=d.2 λi o=>h i ω;have h2:=h n ω;omega
def iX(l:Z0):Nat->Nat->Option Nat
 | 0,_=>none
 | f+1,i=>if dU l i=1 then some i else iX l f (i+1)
def KV(l:Z0)(i:Nat)(h:i<8*l.length):iX l (8*l.length-i) i=if dU l i=1 then some i else iX l (8*l.length-(i+1)) (i+1):=by
 have e:8*l.length-i=(8*l.length-(i+1))+1:=ω
 rw[e,iX]
def KW(l:Z0)(f:Nat):∀i j,iX l f i=some j->i<=j/\j<i+f:=by
 induction f with
 | zero=>intro i j h;cases h
 | succ f d=>
  intro i j h;rw[iX]at h;split at h;·cases h;omega
  ·have:=d _ _ h;omega
def dZ(l:Z0)(a:Nat):Nat × Nat × Nat:=
 match iX l (8*l.length-a) a with
 | some i=>(i-a,i+1,0)
 | none=>(0,a,1)
def Dc(l:Z0)(a:Nat)(d:a<=8*l.length):a<=(dZ l a).2.1/\(dZ l a).2.1<=8*l.length/\(dZ l a).1<=8*l.length:=by
 unfold dZ
 cases h:iX l (8*l.length-a) a with
 | none=>exact⟨al _,d,ar _⟩
 | some i=>have:=KW _ _ _ _ h;show a<=i+1/\i+1<=_/\i-a<=_;omega
def ff(o w:Nat)(r:Z0):Nat->Nat->Nat->Nat->Nat->List Nat->List Nat × Nat × Nat
 | 0,_,a,_,_,h=>(h,a,0)
 | k+1,i,a,d,z,h=>
  if (dZ r a).2.2 = 0 then
   (if (d + (dZ r a).1) * 2 ^ w + aI r (w * i) w < z then ([], 0, 2)
    else if o ≤ (d + (dZ r a).1) * 2^w + aI r (w * i) w then ([], 0, 8)
    else ff o w r k (i + 1) (dZ r a).2.1 (d + (dZ r a).1) ((d + (dZ r a).1) * 2^w + aI r (w * i) w + 1) (h ++ [(d + (dZ r a).1) * 2^w + aI r (w * i) w]))
  else([],0,1)
def tq(r:Z0)(a:Nat):Bool:=decide (aI r a ((8-a%8)%8)=0)
def fu(d:Nat)(b:Z0):List Nat × Nat × Nat:=
 if (az d b).2.2 = 0 then
  (if (az d b).1 = 0 then ([], (az d b).2.1, 0)
   else if 8 * (b.drop (az d b).2.1).length < (az d b).1 * Nat.log2 (d / (az d b).1) then ([], 0, 1)
   else if (ff d (Nat.log2 (d / (az d b).1)) (b.drop (az d b).2.1) (az d b).1 0 ((az d b).1 * Nat.log2 (d / (az d b).1)) 0 0 []).2.2 = 0 then
     (if tq (b.drop (az d b).2.1) (ff d (Nat.log2 (d / (az d b).1)) (b.drop (az d b).2.1) (az d b).1 0 ((az d b).1 * Nat.log2 (d / (az d b).1)) 0 0 []).2.1 then
       ((ff d (Nat.log2 (d / (az d b).1)) (b.drop (az d b).2.1) (az d b).1 0 ((az d b).1 * Nat.log2 (d / (az d b).1)) 0 0 []).1,
        (az d b).2.1 + ((ff d (Nat.log2 (d / (az d b).1)) (b.drop (az d b).2.1) (az d b).1 0 ((az d b).1 * Nat.log2 (d / (az d b).1)) 0 0 []).2.1 + 7) / 8, 0)
      else ([], 0, 2))
   else ([], 0, (ff d (Nat.log2 (d / (az d b).1)) (b.drop (az d b).2.1) (az d b).1 0 ((az d b).1 * Nat.log2 (d / (az d b).1)) 0 0 []).2.2))
 else([],0,(az d b).2.2)
def Hg(o w:Nat)(r:Z0)(k:Nat):∀(i a z A:Nat) (d:List Nat),a<=8*r.length->(ff o w r k i a z A d).2.2=0->(ff o w r k i a z A d).2.1<=8*r.length/\a<=(ff o w r k i a z A d).2.1/\(ff o w r k i a z A d).1.length=d.length+k/\((∀x∈d,x<o)->∀x∈(ff o w r k i a z A d).1,x<o):=by
 induction k with
 | zero=>intro i a z A d F _;exact⟨F,al _,rfl,λh=>h⟩
 | succ k G=>
  intro i a z A d F h;rw[ff]at h ⊢;split at h
  ·rename_i I;rw[af I];split at h;·simp at h
   ·rename_i h1;rw[ae h1];split at h;·simp at h
    ·rename_i h2;rw[ae h2];have J:=Dc r a F;obtain⟨K,Q,L,M⟩:=G _ _ _ _ _ J.2.1 h;refine⟨K,ω,by rw[L,am];simp;omega,λO=>M λx D=>?_⟩;rcases jD.1 D with D | D;·exact O x D
     ·rw[ow.1 D];omega
  ·simp at h
def He(d:Nat)(b:Z0)(h:(fu d b).2.2=0):(fu d b).2.1<=b.length/\0<(fu d b).2.1/\(fu d b).1.length<=d/\∀x∈(fu d b).1,x<d:=by
 unfold fu at *;split at h
 ·rename_i o;rw[af o];have D:=nz _ _ o;split at h;·rename_i h1;rw[af h1];exact⟨D.2.1,D.1,ar _,λx z=>by cases z⟩
  ·rename_i h1;rw[ae h1];split at h;·simp at h
   ·rename_i h2;rw[ae h2];split at h
    ·rename_i h3;rw[af h3];split at h
     ·rename_i h4;rw[af h4];have A:=Hg _ _ _ _ _ _ _ _ _ ω h3;have F:(b.drop (az d b).2.1).length=b.length-(az d b).2.1:=aN ..;refine⟨?_,?_,?_,?_⟩;·show _+(_+7) / 8<=_;rw[F]at A;omega
      ·show 0<_+(_+7) / 8;omega
      ·show List.length _<=_;rw[A.2.2.1];simp;omega
      ·exact A.2.2.2 λx z=>by cases z
     ·simp at h
    ·rename_i h3;exact absurd h h3
 ·rename_i o;exact absurd h o
structure aU where
 lit:UInt8
 len:Nat
 dist:Nat
 deriving DecidableEq
instance:Inhabited aU:=⟨⟨0,0,0⟩⟩
def ii(b:Z0):Nat->Nat->Nat->Nat
 | _,_,0=>0
 | f,a,n+1=>if a<b.length/\b[f]?=b[a]? then ii b (f+1) (a+1) n+1 else 0
def kY(b:Z0)(f a:Nat):Nat:=ii b f a 257
def Cb(b:Z0):∀n f a,ii b f a n<=n:=by
 intro n
 induction n with
 | zero=>intro f a;exact al _
 | succ n d=>intro f a;have:=d (f+1) (a+1);rw[ii];split <;> omega
def Je(b:Z0):∀n f a,a<=b.length->a+ii b f a n<=b.length:=by
 intro n
 induction n with
 | zero=>intro f a h;exact h
 | succ n d=>
  intro f a h;rw[ii];split;·rename_i h1;have:=d (f+1) (a+1) ω;omega
  ·exact h
def yM(b:Z0):∀n f a,a<=b.length->∀i,i<ii b f a n->b[f+i]?=b[a+i]?:=by
 intro n
 induction n with
 | zero=>intro f a _ i d;simp[ii]at d
 | succ n o=>
  intro f a h i d;rw[ii]at d;split at d
  ·rename_i h1
   cases i with
   | zero=>simpa using h1.2
   | succ i=>have:=o (f+1) (a+1) ω i ω;rw[show f+(i+1)=f+1+i by omega,show a+(i+1)=a+1+i by omega];exact this
  ·omega
def gr(b:Z0)(p:Nat):Z0:=(b.drop p).take 3
def Ca(b:Z0)(n f a:Nat)(F:3<=n)(G:f<a):3<=ii b f a n↔(a+3<=b.length/\gr b f=gr b a):=by
 have e:∀p,p+3<=b.length->gr b p=[b.getD p 0,b.getD (p+1) 0,b.getD (p+2) 0]:=by intro p o;unfold gr;rw[gE ω,gD,gE ω,gD,gE ω,gD,lj];simp[bq,bj (show p<b.length by omega),bj (show p+1<b.length by omega),bj (show p+2<b.length by omega)]
 constructor
 ·intro h;by_cases d:a<=b.length;·have h1:=Je b n f a d;refine⟨ω,?_⟩;rw[e f ω,e a ω];have z:=yM b n f a d 0 ω;have A:=yM b n f a d 1 ω;have D:=yM b n f a d 2 ω;simp only[dq]at z;simp only[bq,z,A,D]
  ·obtain⟨m,rfl⟩:∃m,n=m+1:=⟨n-1,ω⟩;rw[ii,ae ω]at h;omega
 ·rintro⟨h1,h2⟩;rw [e f (by omega),e a (by omega)]at h2;simp only [q7,mr]at h2;have g:∀ p,p<b.length->b[p]?=some (b.getD p 0):=fun p o=>(by rw [bq,bj o];rfl);obtain⟨m,rfl⟩:∃ m,n=m+3:=⟨n - 3,by omega⟩;rw [ii, af ⟨by omega, by rw [g _ (by omega), g _ (by omega), h2.1]⟩, ii, af ⟨by omega, by rw [g _ (by omega), g _ (by omega), h2.2.1]⟩, ii, af ⟨by omega, by
    rw[show f + 1 + 1 = f + 2 by omega, show a + 1 + 1 = a + 2 by omega, g _ ω, g _ ω, h2.2.2]⟩]
  omega
def oE(b:Z0)(d:Nat)(s:Nat × Nat)(h:Nat):Nat × Nat:=if s.1<kY b (d-h) d then(kY b (d-h) d,h)else s
def dM(b:Z0)(h:Nat):Nat->Nat × Nat
 | 0=>(0,0)
 | d+1=>oE b h (dM b h d) (d+1)
def cC(b:Z0)(d:Nat):Nat × Nat:=dM b d (min 4095 d)
def tX(b:Z0)(a:Nat)(o:a<=b.length):∀d,(dM b a d).1<=257/\a+(dM b a d).1<=b.length/\(dM b a d).2<=d/\(0<(dM b a d).1->0<(dM b a d).2):=by
 intro d
 induction d with
 | zero=>simp[dM,o]
 | succ d h=>
  rw[dM,oE];split;·refine⟨Cb _ _ _ _,Je _ _ _ _ o,al _,λ_=>by simp⟩
  ·exact⟨h.1,h.2.1,ω,h.2.2.2⟩
def V6(b:Z0)(a:Nat)(d e:Nat)(h:d<=e)(o:(dM b a d).1=257):dM b a e=dM b a d:=by
 induction e with
 | zero=>rw[Nat.le_zero.1 h]
 | succ e z=>
  by_cases h1:d=e+1;·rw[h1]
  ·rw[dM,oE,z ω,ae];rw[o];have:=Cb b 257 (a-(e+1)) a;unfold kY;omega
def kU(s t:Nat × Nat):Prop:=(3<=s.1->t=s)/\(s.1<3->t=(0,0))
def Ix(b:Z0)(a d e:Nat)(t:Nat × Nat)(z:d<=e)(h:kU (dM b a d) t)(o:∀k,d<k->k<=e->¬3<=kY b (a-k) a):kU (dM b a e) t:=by
 induction e with
 | zero=>rw[Nat.le_zero.1 z]at h;exact h
 | succ e A=>
  by_cases h1:d=e+1;·rw[<- h1];exact h
  ·have h2:=A ω (λk a b=>o k a ω);have h3:=o (e+1) ω (al _);rw[dM,oE];split;·rename_i h4;exact⟨λh5=>absurd h5 h3,λ_=>h2.2 ω⟩
   ·exact h2
def UC(b:Z0)(a d:Nat)(t:Nat × Nat)(h:kU (dM b a d) t)(o:3<=kY b (a-(d+1)) a):kU (dM b a (d+1)) (oE b a t (d+1)):=by
 rw[dM];unfold oE;by_cases h3:3<=(dM b a d).1
 ·rw[h.1 h3];split;·exact⟨λ_=>rfl,λh=>by simp at h;omega⟩
  ·exact⟨λ_=>rfl,λh=>by omega⟩
 ·rw[h.2 ω,af ω,af (by simp;omega)];exact⟨λ_=>rfl,λh=>by simp at h;omega⟩
def jy(b:Z0)(key:Z0):Nat->Option Nat
 | 0=>none
 | n+1=>if n+3<=b.length/\gr b n=key then some n else jy b key n
def vt(b key:Z0)(n p:Nat)(h:jy b key n=some p):p<n/\p+3<=b.length/\gr b p=key/\∀q,p<q->q<n->q+3<=b.length->gr b q≠key:=by
 induction n with
 | zero=>cases h
 | succ n o=>
  rw[jy]at h;split at h;·rename_i h1;cases h;exact⟨ω,h1.1,h1.2,λq a b=>by omega⟩
  ·rename_i h1;obtain⟨F,z,A,D⟩:=o h;refine⟨ω,z,A,λq a c d=>?_⟩;by_cases e:q=n;·subst e;exact λk=>h1 ⟨d,k⟩
   ·exact D q a ω d
def Gm(b key:Z0)(n:Nat)(h:jy b key n=none):∀q,q<n->q+3<=b.length->gr b q≠key:=by
 induction n with
 | zero=>intro q z;omega
 | succ n o=>
  rw[jy]at h;split at h;·cases h
  ·rename_i h1;intro q a d;by_cases e:q=n;·subst e;exact λk=>h1 ⟨d,k⟩
   ·exact o h q ω d
def m8(b:Z0)(p:Nat):Option Nat:=if p+3<=b.length then jy b (gr b p) p else none
def UD(b:Z0)(a d p:Nat)(t:Nat × Nat)(z:a+3<=b.length)(I:d<=a)(A:jy b (gr b a) (a-d)=some p)(h:kU (dM b a d) t):kU (dM b a (a-p)) (oE b a t (a-p))/\p<a-d/\m8 b p=jy b (gr b a) (a-(a-p)):=by
 obtain⟨D,F,o,G⟩:=vt _ _ _ _ A;have h1 := Ix b a d (a - p - 1) t (by omega) h (fun k J K k3 => by
   have := (Ca b 257 (a-k) a ω ω).1 k3
   exact G (a-k) ω ω ω this.2)
 have h2:=UC b a (a-p-1) t h1 ((Ca b 257 _ a ω ω).2 ⟨z,by rw[show a-(a-p-1+1)=p by omega];exact o⟩);rw[show a-p-1+1=a-p by omega]at h2;refine⟨h2,D,?_⟩;unfold m8;rw[af F,o,show a-(a-p)=p by omega]
def y9(b:Z0)(a d:Nat)(t:Nat × Nat)(z:d<=min 4095 a)(h:kU (dM b a d) t)
  (o:(dM b a d).1=257\/∀q,q<a-d->a-q<=4095->gr b q≠gr b a):kU (cC b a) t:=by
 unfold cC;rcases o with o | o;·rw[V6 b a d _ z o];exact h
 ·exact Ix b a d _ t z h λk A D k3=>o (a-k) ω ω ((Ca b 257 (a-k) a ω ω).1 k3).2
def V4(b:Z0)(a:Nat)(d:b.length<a+3)(h:a<=b.length):(cC b a).1<3:=by
 have:=(tX b a h (min 4095 a)).2.1;unfold cC;omega
def gL(b:Z0)(a:Nat):List aU:=
 if h : a < b.length then
  if h3:3<=(cC b a).1 then⟨0,(cC b a).1,(cC b a).2⟩::gL b (a+(cC b a).1)
  else⟨b[a],0,0⟩::gL b (a+1)
 else []
termination_by b.length-a
def eh(b:Z0):List aU:=gL b 0
def vD(b:Z0)(a:Nat)(h:b.length<=a):gL b a=[]:=by rw[gL,dif_neg ω]
def tL(b:Z0)(a:Nat)(h:a<b.length)(h3:3<=(cC b a).1):gL b a=⟨0,(cC b a).1,(cC b a).2⟩::gL b (a+(cC b a).1):=by rw[gL,dif_pos h,dif_pos h3]
def tM(b:Z0)(a:Nat)(h:a<b.length)(h3:¬3<=(cC b a).1):gL b a=⟨b[a],0,0⟩::gL b (a+1):=by rw[gL,dif_pos h,dif_neg h3]
def ex(t:aU):Bool:=if t.len=0 then decide (t.dist=0)else decide (t.lit=0) && decide (3<=t.len) && decide (t.len<=257) && decide (1<=t.dist) && decide (t.dist<=4095)
def yf(b:Z0)(a:Nat):∀t∈gL b a,ex t=true:=by
 induction a using gL.induct (b:=b)with
 | case1 a h h3 o=>
  rw[tL b a h h3];intro t d;rcases gR.1 d with rfl | d;·have:=tX b a ω (min 4095 a);unfold cC at *;unfold ex;rw[ae (by simp;omega)];simp only[fL,en];refine⟨⟨⟨⟨trivial,?_⟩,?_⟩,?_⟩,?_⟩ <;> omega
  ·exact o t d
 | case2 a h h3 o=>
  rw[tM b a h h3];intro t d;rcases gR.1 d with rfl | d;·simp[ex]
  ·exact o t d
 | case3 a h=>rw[vD b a ω];intro t d;cases d
def Bu(b:Z0)(a:Nat):(gL b a).length<=b.length-a:=by
 induction a using gL.induct (b:=b)with
 | case1 a h h3 d=>rw[tL b a h h3,aL];omega
 | case2 a h h3 d=>rw[tM b a h h3,aL];omega
 | case3 a h=>rw[vD b a ω];simp
def aE(d:Z0)(l:Nat):Nat:=d.countP λc=>c.toNat == l
def qf(d:Z0)(l:Nat):aE d l<=d.length:=C4
theorem tR(l:Nat):aE [] l=0:=rfl
def Il(a b:Z0)(l:Nat):aE (a++b) l=aE a l+aE b l:=by simp[aE]
def BB(c:UInt8)(b:Z0)(l:Nat):aE (c::b) l=aE b l+if c.toNat=l then 1 else 0:=by
 simp[aE,uw]
def qe(d:Z0)(k l:Nat)(h:k<d.length):aE (d.take (k+1)) l=aE (d.take k) l+if d[k].toNat=l then 1 else 0:=by
 rw[f8 h,Il,BB,tR];omega
def yr(d:Z0)(k l:Nat):aE (d.take k) l<=aE d l:=by
 conv=>rhs;rw[<- jC k d]
 rw[Il];omega
def bM(d:Z0):Nat->Nat
 | 0=>0
 | 1=>0
 | l+2=>2*(bM d (l+1)+aE d (l+1))
def ye(d:Z0)(l:Nat)(h:1<=l):bM d (l+1)=2*(bM d l+aE d l):=by
 obtain⟨k,rfl⟩:∃k,l=k+1:=⟨l-1,ω⟩;rfl
def GR(d:Z0)(l:Nat):bM d l+2*d.length<=d.length*2^(l+1):=by
 induction l with
 | zero=>simp[bM];omega
 | succ l o=>
  rcases kE l with rfl | h;·simp[bM];omega
  ·rw[ye d l h];have:=qf d l;have e:d.length*2^(l+1+1)=2*(d.length*2^(l+1)):=(by rw[gC 2 (l+1)];simp[dX,rp]);rw[e];omega
def bV(d:Z0)(l s:Nat):Nat:=bM d l+aE (d.take s) l
def KH(d:Z0)(l s:Nat)(o:l<=15)(h:d.length<=300):bV d l s<=20000000:=by
 have h1:=GR d l;have h2:=yr d s l;have h3:=qf d l;have h4:d.length*2^(l+1)<=300*2^16:=bH h (fp ω ω);unfold bV;omega
def KG(d:Z0)(l:Nat):bV d l 0=bM d l:=by simp[bV,tR]
def CY(d:Z0)(l s:Nat)(h:s<d.length):bV d l (s+1)=bV d l s+if d[s].toNat=l then 1 else 0:=by
 unfold bV;rw[qe _ _ _ h];omega
def eK(d:Z0):List Nat:=d.mapIdx λs c=>if c=0 then 0 else bV d c.toNat s%65536
def oi(d:Z0):(eK d).length=d.length:=by simp[eK]
def vJ(d:Z0)(s:Nat)(h:s<d.length):(eK d)[s]'(by rw[oi];exact h)=if d[s]=0 then 0 else bV d d[s].toNat s%65536:=by simp[eK]
def l8(d:Z0):Nat:=(d.map λc=>if c=0 then 0 else 2^(15-c.toNat)).sum
theorem xV(c:UInt8)(l:Z0):l8 (c::l)=(if c=0 then 0 else 2^(15-c.toNat))+l8 l:=rfl
def Rv(d:Z0):l8 d<=d.length*16384:=by
 induction d with
 | nil=>simp[l8]
 | cons c l o=>
  rw[xV,aL];have:(if c=0 then 0 else 2^(15-c.toNat))<=16384:=by
   split;·omega
   ·rename_i h;have z:c.toNat≠0:=λe=>h (eP.1 (by simpa using e));have:2^(15-c.toNat)<=2^14:=fp ω ω;omega
  omega
def dk(f:Nat->Nat):Nat->Nat
 | 0=>0
 | l+1=>dk f l+f (l+1)
def DT(f g:Nat->Nat)(l:Nat):dk (λk=>f k+g k) l=dk f l+dk g l:=by
 induction l with
 | zero=>rfl
 | succ l d=>simp only[dk,d];omega
def DL(l:Nat):dk (λ_=>0) l=0:=by induction l with | zero=>rfl | succ l d=>simp[dk,d]
def DM(c v:Nat)(l:Nat):dk (λk=>if c=k then v else 0) l=if 1<=c/\c<=l then v else 0:=by
 induction l with
 | zero=>simp[dk];omega
 | succ l d=>
  rw[dk,d];by_cases h1:c=l+1;·subst h1;rw[ae ω,af rfl,af ω];omega
  ·rw[ae h1];by_cases h2:1<=c/\c<=l;·rw[af h2,af ω];omega
   ·rw[ae h2,ae ω]
def DS(f g:Nat->Nat)(l:Nat)(h:∀k,1<=k->k<=l->f k=g k):dk f l=dk g l:=by
 induction l with
 | zero=>rfl
 | succ l d=>rw[dk,dk,d (λk a b=>h k a ω),h (l+1) ω ω]
def DG(d:Z0)(h:∀c∈d,c.toNat<=15):dk (λl=>aE d l*2^(15-l)) 15=l8 d:=by
 induction d with
 | nil=>simp[tR,l8,DL]
 | cons c d A=>
  have z:=h c (by simp);rw [xV,<- A (fun c z=>h c (by simp [z]))];rw [DS (fun l => aE (c :: d) l * 2 ^ (15 - l)) (fun l => (aE d l * 2 ^ (15 - l)) + if c.toNat = l then 2 ^ (15 - c.toNat) else 0) 15 (fun k _ _ => by
    rw[BB, be];by_cases e : c.toNat = k;·rw[af e, af e, e]; omega
    · rw[ae e, ae e]; omega)]
  rw[DT,DM];by_cases o:c=0;·subst o;simp
  ·have D:c.toNat≠0:=λe=>o (eP.1 (by simpa using e));rw[af ω,ae o];omega
def jH(d:Z0):Nat:=d.countP λc=>c != 0
def Kx(d:Z0):jH d<=d.length:=C4
def M6(d:Z0)(h:∀c∈d,c.toNat<=15):dk (aE d) 15=jH d:=by
 induction d with
 | nil=>exact DL 15
 | cons c d A=>
  have z:=h c σ;rw[DS (aE (c::d)) (λl=>aE d l+if c.toNat=l then 1 else 0) 15 (λk _ _=>BB c d k),DT,DM,A (λc z=>h c (by simp[z]))];unfold jH;rw[uw];by_cases o:c=0;·subst o;simp
  ·have D:c.toNat≠0:=λe=>o (eP.1 (by simpa using e));simp[o];omega
def bX(d:Z0):Bool:=decide (jH d=0) || decide (l8 d=32768) || (decide (jH d=1) && decide (aE d 1=1))
def SD(d:Z0):∀l,l<=15->(bM d l+(if l=0 then 0 else aE d l))*2^(15-l)=dk (λk=>aE d k*2^(15-k)) l:=by
 intro l
 induction l with
 | zero=>intro _;simp[bM,dk]
 | succ l o=>
  intro h;rw[dk,<- o ω,ae ω];rcases kE l with rfl | z;·simp[bM]
  ·rw[ye _ _ z,ae ω,show 15-l=(15-(l+1))+1 by omega,gC,be (2*_)];simp only[pA,dX,rp]
def MC(f:Nat->Nat)(a b:Nat)(h:a<=b):dk f a<=dk f b:=by
 induction b with
 | zero=>rw[Nat.le_zero.1 h];exact al _
 | succ b d=>
  by_cases e:a=b+1;·rw[e];exact al _
  ·rw[dk];have:=d ω;omega
def PF(o:Z0)(h:bX o=true):l8 o<=32768:=by
 unfold bX at h;simp only[wH,fL,en]at h;rcases h with(h | h) | ⟨h,_⟩
 ·have:∀l:Z0,jH l=0->l8 l=0:=by
    intro l
    induction l with
    | nil=>intro _;rfl
    | cons c l z=>
     intro e;unfold jH at e;rw[uw]at e
     have A : c = 0 := by by_cases d : c = 0; · exact d
                          ·simp[d]at e
     rw[xV,af A,z (by unfold jH;omega)]
  rw[this o h];omega
 ·omega
 ·have:∀l:Z0,jH l<=1->l8 l<=jH l*16384:=by
    intro l
    induction l with
    | nil=>intro _;simp[l8]
    | cons c l z=>
     intro e;unfold jH at e ⊢;rw[uw]at e ⊢;rw[xV];have D:=z (by unfold jH;omega);unfold jH at D;by_cases d:c=0;·simp[d];omega
     ·have F:c.toNat≠0:=λe=>d (eP.1 (by simpa using e));have:2^(15-c.toNat)<=2^14:=fp ω ω;simp[d]at *;omega
  have:=this o ω;omega
def zG(d:Z0)(D:bX d=true)(o:∀c∈d,c.toNat<=15)(s:Nat)(h:s<d.length)(F:d[s]≠0):bV d d[s].toNat s<2^d[s].toNat:=by
 have h1:=PF d D;have z:=o _ (bJ h);have G:d[s].toNat≠0:=λe=>F (eP.1 (by simpa using e));have I:=CY d d[s].toNat s h;rw[af rfl]at I;have L:=yr d (s+1) d[s].toNat;have A:=SD d d[s].toNat z;rw[ae G]at A;have J:=MC (λk=>aE d k*2^(15-k)) d[s].toNat 15 z;rw[DG d o,<- A]at J;have h2:bV d d[s].toNat (s+1)<=bM d d[s].toNat+aE d d[s].toNat:=by unfold bV;omega
 have h3:(2:Nat)^d[s].toNat*2^(15-d[s].toNat)=32768:=by rw[<- Nat.pow_add,show d[s].toNat+(15-d[s].toNat)=15 by omega]
 have K:=lh (15-d[s].toNat);have h4:(bM d d[s].toNat+aE d d[s].toNat)*2^(15-d[s].toNat)<=2^d[s].toNat*2^(15-d[s].toNat):=ω
 have h5:=Nat.le_of_mul_le_mul_right h4 K;omega
def gh(a:Nat):Nat:=if a<128 then 2*a else(2*a-256) ^^^ 29
def ny:Nat->Nat->Nat->Nat->Nat
 | 0,_,_,o=>o
 | f+1,a,b,o=>if b=0 then o else ny f (gh a) (b / 2) (if b%2=1 then o ^^^ a else o)
def aS(a b:Nat):Nat:=ny 8 a b 0
def EV(a b:Nat):Nat->Nat->Nat
 | 0,p=>p
 | f+1,p=>EV a b f (if b / 2^(7-f)%2=1 then p ^^^ (a*2^(7-f))else p)
def nP:Nat->Nat->Nat
 | 0,p=>p
 | f+1,p=>nP f (if p / 2^(f+8)%2=1 then p ^^^ (285*2^f)else p)
def Yy(a b:Nat):Nat:=nP 7 (EV a b 8 0)
def nQ:Nat->Nat->Nat->Nat->Nat
 | 0,_,_,o=>o
 | f+1,a,n,o=>if n=0 then o else nQ f (aS a a) (n / 2) (if n%2=1 then aS o a else o)
def n9(a:Nat):Nat:=nQ 8 a 254 1
def jn(n:Nat)(p:Nat->Bool):Bool:=
 match n with
 | 0=>true
 | n+1=>p n && jn n p
def jT(n:Nat)(p:Nat->Bool)(h:jn n p=true):∀i,i<n->p i=true:=by
 induction n with
 | zero=>intro i d;omega
 | succ n o=>
  rw[jn,fL]at h;intro i d;by_cases e:i=n;·subst e;exact h.1
  ·exact o h.2 i ω
def dG:Nat->Nat->Nat->Nat
 | 0,_,_=>0
 | f+1,a,b=>(if b%2=1 then a else 0) ^^^ dG f (gh a) (b / 2)
def DU(f:Nat):∀a,dG f a 0=0:=by
 induction f with
 | zero=>intro a;rfl
 | succ f d=>intro a;simp[dG,d]
def Qe(f:Nat):∀a b o,ny f a b o=o ^^^ dG f a b:=by
 induction f with
 | zero=>intro a b o;simp[ny,dG]
 | succ f d=>
  intro a b o;rw[ny,dG];by_cases h:b=0;·subst h;simp[DU]
  ·rw[ae h,d];by_cases h2:b%2=1;·simp[h2,pz]
   ·simp[h2]
def nV(a b:Nat):aS a b=dG 8 a b:=by unfold aS;rw[Qe];simp
def BM(p q k:Nat):((p ^^^ q) / 2^k%2=1)↔¬((p / 2^k%2=1)↔(q / 2^k%2=1)):=by
 have h:=Nat.testBit_xor p q k;rw[JT,JT,JT]at h;by_cases h1:p / 2^k%2=1 <;> by_cases h2:q / 2^k%2=1 <;> simp[h1,h2]at h ⊢ <;> exact h
def wN(a b c d:Nat):(a ^^^ b) ^^^ (c ^^^ d)=(a ^^^ c) ^^^ (b ^^^ d):=by
 rw[pz,<- pz b c d,Nat.xor_comm b c,pz c b d,<- pz]
def RR(p q k c:Nat):(if(p ^^^ q) / 2^k%2=1 then(p ^^^ q) ^^^ c else p ^^^ q)=(if p / 2^k%2=1 then p ^^^ c else p) ^^^ (if q / 2^k%2=1 then q ^^^ c else q):=by
 have h:=BM p q k;by_cases h1:p / 2^k%2=1 <;> by_cases h2:q / 2^k%2=1;·rw[ae (by rw[h];simp[h1,h2]),af h1,af h2,wN,Nat.xor_self,ug]
 ·rw[af (by rw[h];simp[h1,h2]),af h1,ae h2,pz,pz,Nat.xor_comm q c]
 ·rw[af (by rw[h];simp[h1,h2]),ae h1,af h2,pz]
 ·rw[ae (by rw[h];simp[h1,h2]),ae h1,ae h2]
def NU(f:Nat):∀p q,nP f (p ^^^ q)=nP f p ^^^ nP f q:=by
 induction f with
 | zero=>intro p q;rfl
 | succ f d=>intro p q;rw[nP,nP,nP,RR,d]
def uI:Nat->Nat->Nat
 | 0,a=>a
 | n+1,a=>uI n (gh a)
def NX:jn 256 (λa=>jn 8 λi=>nP 7 (a*2^i) == uI i a && decide (uI i a<256))=true:=by decide +kernel
def NV(a i:Nat)(d:a<256)(h:i<8):nP 7 (a*2^i)=uI i a/\uI i a<256:=by
 have:=jT 8 _ (jT 256 _ NX a d) i h;simpa using this
def Lh:jn 256 (λa=>decide (gh a<256))=true:=by decide +kernel
def r9(a:Nat)(d:a<256):gh a<256:=by have:=jT 256 _ Lh a d;simpa using this
def DE(f:Nat):∀a b,a<256->dG f a b<256:=by
 induction f with
 | zero=>intro a b _;simp[dG]
 | succ f d=>intro a b h;rw[dG];have h1:(if b%2=1 then a else 0)<2^8:=(by split <;> omega);have h2:dG f (gh a) (b / 2)<2^8:=d _ _ (r9 a h);exact jV h1 h2
def nU(a b:Nat)(d:a<256):aS a b<256:=by rw[nV];exact DE 8 a b d
def M5(f:Nat):∀a b c,dG f a (b ^^^ c)=dG f a b ^^^ dG f a c:=by
 induction f with
 | zero=>intro a b c;simp[dG]
 | succ f d=>
  intro a b c;rw[dG,dG,dG,Nat.xor_div_two,d,wN];congr 1;have h:=BM b c 0;simp only[Nat.pow_zero,Nat.div_one]at h;by_cases h1:b%2=1 <;> by_cases h2:c%2=1;·rw[ae (by rw[h];simp[h1,h2]),af h1,af h2,Nat.xor_self]
  ·rw[af (by rw[h];simp[h1,h2]),af h1,ae h2,ug]
  ·rw[af (by rw[h];simp[h1,h2]),ae h1,af h2,Nat.zero_xor]
  ·rw[ae (by rw[h];simp[h1,h2]),ae h1,ae h2,ug]
def rK(a b c:Nat):aS a (b ^^^ c)=aS a b ^^^ aS a c:=by rw[nV,nV,nV,M5]
def zM(a:Nat)(d:a<256):gh a=nP 7 (a*2):=(NV a 1 d ω).1.symm
def Df(p q:Nat)(d:p<256)(h:q<256):gh (p ^^^ q)=gh p ^^^ gh q:=by
 have o:p ^^^ q<2^8:=jV d h;rw[zM _ o,zM p d,zM q h,<- NU];congr 1;have:=Nat.shiftLeft_xor_distrib (a:=p) (b:=q) (i:=1);simpa [Nat.shiftLeft_eq] using this
def M8(f:Nat):∀a b,a<256->dG f (gh a) b=gh (dG f a b):=by
 induction f with
 | zero=>intro a b _;rfl
 | succ f h=>intro a b d;have h1:(if b%2=1 then a else 0)<256:=(by split <;> omega);rw[dG,dG,Df _ _ h1 (DE f _ _ (r9 a d)),h _ _ (r9 a d)];congr 1;split <;> rfl
def M9(f:Nat):∀a c,c<2^f->dG (f+1) a c=dG f a c:=by
 induction f with
 | zero => intro a c h; have : c = 0 := by omega
           subst this;simp[dG]
 | succ f d=>intro a c h;have e:=d (gh a) (c / 2) (by rw[gC]at h;omega);show(if c%2=1 then a else 0) ^^^ dG (f+1) (gh a) (c / 2)=(if c%2=1 then a else 0) ^^^ dG f (gh a) (c / 2);rw[e]
def Qc(a b:Nat)(d:a<256)(h:b<256):aS a b=gh (aS a (b / 2)) ^^^ (if b%2=1 then a else 0):=by
 rw[nV,nV,M9 7 a (b / 2) ω,dG,M8 7 a _ d,Nat.xor_comm]
def RC:jn 256 (λa=>a == 0 || (decide (n9 a<256) && aS a (n9 a) == 1 && jn 8 λk=>aS (n9 a) (aS a (2^k)) == 2^k))=true:=by decide +kernel
def Gv(a:Nat)(d:a≠0)(o:a<256):n9 a<256/\aS a (n9 a)=1/\∀k,k<8->aS (n9 a) (aS a (2^k))=2^k:=by
 have:=jT 256 _ RC a o;simp only[wH,fL,beq_iff_eq,en]at this;rcases this with h | ⟨⟨h1,h2⟩,h3⟩;·exact absurd h d
 ·exact⟨h1,h2,λk z=>by simpa using jT 8 _ h3 k z⟩
def mP(i k:Nat):Nat:=if i / 2^k%2=1 then 2^k else 0
def vN(i:Nat):Nat:=mP i 0 ^^^ (mP i 1 ^^^ (mP i 2 ^^^ (mP i 3 ^^^ (mP i 4 ^^^ (mP i 5 ^^^ (mP i 6 ^^^ mP i 7))))))
def Vr:jn 256 (λi=>vN i == i)=true:=by decide +kernel
def F3(a:Nat):aS a 0=0:=by rw[nV,DU]
def MA(f:Nat):∀b,dG f 0 b=0:=by
 induction f with
 | zero=>intro b;rfl
 | succ f d=>intro b;rw[dG,show gh 0=0 from rfl,d];simp
def Fz(b:Nat):aS 0 b=0:=by rw[nV,MA]
def bP(x:Nat):Nat->Z0
 | 0=>[]
 | n+1=>UInt8.ofNat (x / 2^n%2)::bP x n
def fX(x n:Nat):(bP x n).length=n:=by induction n with | zero=>rfl | succ n d=>simp[bP,d]
def il(l:Z0):Prop:=∀c∈l,c=0\/c=1
def Vs(y:Nat):UInt8.ofNat (y%2)=0\/UInt8.ofNat (y%2)=1:=by
 rcases Nat.mod_two_eq_zero_or_one y with h | h <;> rw[h] <;> simp
def sg(x n:Nat):il (bP x n):=by
 induction n with
 | zero=>intro c d;cases d
 | succ n h=>
  intro c d;simp only[bP,gR]at d;rcases d with rfl | d;·exact Vs _
  ·exact h c d
def il.app{a b:Z0}(h1:il a)(h2:il b):il (a++b):=by
 intro c d;rcases jD.1 d with h | h;·exact h1 c h
 ·exact h2 c h
def lp(n:Nat):Z0:=List.replicate n 0++[1]
def KS(n:Nat):il (lp n):=by
 intro c d;rcases jD.1 d with h | h;·exact .inl (List.eq_of_mem_replicate h)
 ·exact .inr (by simpa using h)
def dA(l:Z0)(i:Nat):Nat:=(l.getD i 0).toNat
def ig(l:Z0)(q:Nat):Nat:=
 dA l (8*q)*128+dA l (8*q+1)*64+dA l (8*q+2)*32+dA l (8*q+3)*16+dA l (8*q+4)*8+dA l (8*q+5)*4+dA l (8*q+6)*2+dA l (8*q+7)
def cx(l:Z0):Z0:=(List.range ((l.length+7) / 8)).map λq=>UInt8.ofNat (ig l q)
def nt(l:Z0):(cx l).length=(l.length+7) / 8:=by simp[cx]
def kW{l:Z0}(h:il l)(i:Nat):dA l i<=1:=by
 unfold dA;by_cases d:i<l.length;·rw[bq,bj d];rcases h _ (bJ d)with e | e <;> simp[e]
 ·rw[bq,iW ω];simp
def BJ{l:Z0}(h:il l)(q:Nat):ig l q<256:=by
 unfold ig;have d:=kW h (8*q);have h1:=kW h (8*q+1);have h2:=kW h (8*q+2);have h3:=kW h (8*q+3);have h4:=kW h (8*q+4);have h5:=kW h (8*q+5);have o:=kW h (8*q+6);have z:=kW h (8*q+7);omega
def lY(l:Z0)(i:Nat)(h:l.length<=i):dA l i=0:=by
 unfold dA;rw[bq,iW h];rfl
def Vy(l:Z0)(x:UInt8)(i:Nat)(h:i<l.length):dA (l++[x]) i=dA l i:=by
 unfold dA;rw[bq,bq,q6 h]
def IM(l:Z0)(x:UInt8):dA (l++[x]) l.length=x.toNat:=by
 unfold dA;rw[bq,sE (al _)];simp
def qh(l:Z0)(x:UInt8)(i:Nat)(h:i≠l.length):dA (l++[x]) i=dA l i:=by
 by_cases d:i<l.length;·exact Vy l x i d
 ·rw[lY (l++[x]) i (by simp;omega),lY l i ω]
def UV(l:Z0)(x:UInt8)(q:Nat)(h:q≠l.length / 8):ig (l++[x]) q=ig l q:=by
 unfold ig;rw[qh l x _ ω,qh l x _ ω,qh l x _ ω,qh l x _ ω,qh l x _ ω,qh l x _ ω,qh l x _ ω,qh l x _ ω]
def UW(l:Z0)(x:UInt8):ig (l++[x]) (l.length / 8)=ig l (l.length / 8)+x.toNat*2^(7-l.length%8):=by
 obtain⟨q,r,I,A⟩:∃q r,r<8/\l.length=8*q+r:=⟨l.length / 8,l.length%8,ω,ω⟩;have D:l.length / 8=q:=ω
 have F:l.length%8=r:=ω
 rw[D,F];have o:=IM l x;have z:=lY l l.length (al _);rw[A]at o z;have d:=λi (h:i≠8*q+r)=>qh l x i (by rw[A];exact h);unfold ig;have G:r=0\/r=1\/r=2\/r=3\/r=4\/r=5\/r=6\/r=7:=ω
 rcases G with rfl | rfl | rfl | rfl | rfl | rfl | rfl | rfl <;>
  (try simp only [dq] at o z d
   try rw[d (8 * q) ω]
   try rw[d (8 * q + 1) ω]
   try rw[d (8 * q + 2) ω]
   try rw[d (8 * q + 3) ω]
   try rw[d (8 * q + 4) ω]
   try rw[d (8 * q + 5) ω]
   try rw[d (8 * q + 6) ω]
   try rw[d (8 * q + 7) ω]
   rw[o, z]
   simp only[Nat.reduceSub, Nat.reducePow]
   omega)
def UX{l:Z0}(q s:Nat)(z:s<8)(h:l.length<=8*q+(7-s)):ig l q / 2^s%2=0:=by
 unfold ig;have o:s=0\/s=1\/s=2\/s=3\/s=4\/s=5\/s=6\/s=7:=ω
 have d:=λi (h2:8*q+(7-s)<=i)=>lY l i (ay h h2)
 rcases o with rfl | rfl | rfl | rfl | rfl | rfl | rfl | rfl <;>
  (simp only [Nat.reducePow]
   try rw[d (8 * q) ω]
   try rw[d (8 * q + 1) ω]
   try rw[d (8 * q + 2) ω]
   try rw[d (8 * q + 3) ω]
   try rw[d (8 * q + 4) ω]
   try rw[d (8 * q + 5) ω]
   try rw[d (8 * q + 6) ω]
   try rw[d (8 * q + 7) ω]
   all_goals omega)
def Pw:jn 256 (λy=>jn 8 λs=>!(y / 2^s%2 == 0) || (y ||| 2^s) == y+2^s)=true:=by decide +kernel
def Pv(y s:Nat)(d:y<256)(o:s<8)(h:y / 2^s%2=0):y ||| 2^s=y+2^s:=by
 have:=jT 8 _ (jT 256 _ Pw y d) s o;simpa [h] using this
def Pj(l:Z0)(x:UInt8)(z:il l)(A:x=0\/x=1):cx (l++[x])=((if l.length%8=0 then cx l++[0]else cx l).set (l.length / 8) (UInt8.ofNat (ig l (l.length / 8) ||| x.toNat*2^(7-l.length%8)))):=by
 have D:ig l (l.length / 8) ||| x.toNat*2^(7-l.length%8)=ig (l++[x]) (l.length / 8):=by
  rw[UW];rcases A with rfl | rfl;·simp
  ·have F:UInt8.toNat 1=1:=rfl;rw[F,dC];exact Pv _ _ (BJ z _) ω (UX _ _ ω ω)
 rw[D];apply gT
 ·rw[nt,mW,am,kH];split;·rw[am,nt];simp;omega
  ·rw[nt];omega
 ·intro q h1 h2;have J:q<(l.length+1+7) / 8:=(by rw[nt]at h1;simpa using h1);rw[List.getElem_set];by_cases e:l.length / 8=q;·rw[af e];simp[cx,e]
  ·rw[ae e];have G:q<(l.length+7) / 8:=ω;have I:(cx (l++[x]))[q]=UInt8.ofNat (ig l q):=(by simp[cx,UV l x q (λh=>e h.symm)]);have d:∀h,(cx l)[q]'h=UInt8.ofNat (ig l q):=λh=>(by simp[cx]);rw[I];by_cases o:l.length%8=0;·simp only[af o];rw[kI (by rw[nt];exact G)];exact(d _).symm
   ·simp only[ae o];exact(d _).symm
def Pk(l:Z0)(q:Nat)(h:q<(cx l).length):(cx l)[q]=UInt8.ofNat (ig l q):=by simp[cx]
def UU(l:Z0)(q:Nat)(h:l.length<=8*q):ig l q=0:=by
 unfold ig;rw[lY l _ ω,lY l _ ω,lY l _ ω,lY l _ ω,lY l _ ω,lY l _ ω,lY l _ ω,lY l _ ω]
def fM(d:Z0)(s l:Nat):Nat:=if aE (d.take s) l=0 then 0 else bM d l%65536
def sM(d:Z0)(s l:Nat):List Nat:=(List.range s).filter λi=>(d.getD i 0).toNat == l
theorem Nv(d:Z0)(l:Nat):sM d 0 l=[]:=rfl
def SY(d:Z0)(l:Nat):fM d 0 l=0:=by simp[fM,tR]
def xj(d:Z0)(s l:Nat)(h:s<d.length):sM d (s+1) l=sM d s l++if d[s].toNat=l then [s]else []:=by
 have e:d.getD s 0=d[s]:=by rw[bq,bj h];rfl
 unfold sM;rw[jr,sF];congr 1;simp only[mX,List.filter_nil,e];by_cases h2:d[s].toNat=l <;> simp[h2]
def Af(d:Z0)(s l:Nat)(h:s<=d.length):(sM d s l).length=aE (d.take s) l:=by
 induction s with
 | zero=>simp[sM,tR]
 | succ s o=>rw[xj d s l h,am,o ω,qe _ _ _ h];split <;> rfl
def GW(d:Z0)(s l:Nat)(h:s<d.length):fM d (s+1) l=if d[s].toNat=l then bM d l%65536 else fM d s l:=by
 unfold fM;rw[qe _ _ _ h];by_cases h2:d[s].toNat=l;·rw[af h2,af h2,ae ω]
 ·rw[ae h2,ae h2];rfl
def SG(d:Z0)(s:Nat)(h:s<d.length)(o:d[s]≠0)(z:aE (d.take s) d[s].toNat=0):(eK d)[s]'(by rw[oi];exact h)=bM d d[s].toNat%65536:=by
 rw[vJ d s h,ae o];unfold bV;rw[z,dq]
def SE(d:Z0)(s l:Nat)(h:aE (d.take s) l≠0):fM d s l=bM d l%65536:=by unfold fM;rw[ae h]
def bg(d:Z0)(s:Nat):Nat:=(d.getD s 0).toNat
def nN(d:Z0)(s:Nat)(h:s<d.length):bg d s=d[s].toNat:=by
 unfold bg;rw[bq,bj h];rfl
def uK(d:Z0)(s:Nat)(h:d.length<=s):bg d s=0:=by
 unfold bg;rw[bq,iW h];rfl
def jb(d:Z0)(s:Nat):Z0:=if bg d s=0 then []else bP ((eK d).getD s 0) (bg d s)
def IJ(d:Z0)(s:Nat)(h:bg d s=0):jb d s=[]:=af h
def tW(d:Z0)(s:Nat)(h:bg d s≠0):jb d s=bP ((eK d).getD s 0) (bg d s):=ae h
def IK(d:Z0)(s:Nat)(h:∀c∈d,c.toNat<=15):(jb d s).length<=15:=by
 unfold jb;split;·simp
 ·rename_i h2;rw[fX];by_cases o:s<d.length;·rw[nN d s o];exact h _ (bJ o)
  ·rw[uK d s ω]at h2;exact absurd rfl h2
def Ih(d:Z0)(s:Nat)(h:s<d.length):(eK d).getD s 0=(eK d)[s]'(by rw[oi];exact h):=by
 rw[bq,bj];rfl
def Uu(d:Z0)(z:bX d=true)(A:∀c∈d,c.toNat<=15)(s:Nat)(h:s<d.length)(o:d[s]≠0):(eK d)[s]'(by rw[oi];exact h)<2^d[s].toNat:=by
 rw[vJ d s h,ae o];exact Nat.lt_of_le_of_lt (Nat.mod_le _ _) (zG d z A s h o)
def Ij(d:Z0)(s:Nat)(h:s<(eK d).length):(eK d)[s]<65536:=by
 rw[vJ d s (by rw[oi]at h;exact h)];split;·omega
 ·exact jB _ ω
def dh:Z0->Nat->Nat
 | [],_=>0
 | _::_,0=>0
 | c::l,k+1=>if c=0 then dh l k+1 else 0
def C7(l:Z0):∀k,dh l k<=k/\dh l k<=l.length:=by
 induction l with
 | nil=>intro k;simp[dh]
 | cons c l d=>
  intro k
  cases k with
  | zero=>simp[dh]
  | succ k=>
   rw[dh];have:=d k;split;·rw[aL];omega
   ·omega
def JW(l:Z0):dh l 0=0:=by cases l <;> rfl
def dr:Z0->Z0
 | []=>[]
 | c::r=>if c=0 then bP 0 4++(bP (dh r 63) 6++dr (r.drop (dh r 63)))else bP c.toNat 4++dr r
termination_by l=>l.length
decreasing_by
 ·rw[aN,aL];omega
 ·rw[aL];omega
def rz:dr []=[]:=by rw[dr]
def wQ(r:Z0)(c:UInt8)(h:c=0):dr (c::r)=bP 0 4++(bP (dh r 63) 6++dr (r.drop (dh r 63))):=by rw[dr,af h]
def wR(r:Z0)(c:UInt8)(h:c≠0):dr (c::r)=bP c.toNat 4++dr r:=by rw[dr,ae h]
def CP:∀(n:Nat) (l:Z0),l.length<=n->(dr l).length<=10*l.length:=by
 intro n
 induction n with
 | zero=>intro l h;rw[kd (Nat.le_zero.1 h),rz];simp
 | succ n d=>
  intro l h
  cases l with
  | nil=>rw[rz];simp
  | cons c r=>
   rw[aL]at h;by_cases o:c=0;·rw[wQ r c o,am,am,fX,fX];have h1:=d (r.drop (dh r 63)) (by rw[aN];omega);have h2:=(C7 r 63).2;rw[aN]at h1;rw[aL];omega
   ·rw[wR r c o,am,fX];have h1:=d r ω;rw[aL];omega
def JZ(l:Z0)(i k:Nat)(h:i<l.length)(d:l[i]=0):dh (l.drop i) (k+1)=dh (l.drop (i+1)) k+1:=by
 rw[gE h,dh,af d]
def Ka(l:Z0)(i k:Nat)(h:i<l.length)(d:l[i]≠0):dh (l.drop i) k=0:=by
 rw[gE h]
 cases k with
 | zero=>rfl
 | succ k=>rw[dh,ae d]
def Kb(l:Z0)(i k:Nat)(h:l.length<=i):dh (l.drop i) k=0:=by rw[List.drop_eq_nil_of_le h];rfl
def fx(v:Nat):Nat:=Nat.log2 v
def ix(v:Nat):Nat:=v-2^Nat.log2 v
def yy(v:Nat)(h:1<=v):2^fx v<=v:=Nat.log2_self_le ω
def Uw(v:Nat):v<2^(fx v+1):=Nat.lt_log2_self
def xr(v:Nat)(h:1<=v):ix v<2^fx v:=by
 have h1:=yy v h;have h2:=Uw v;unfold ix fx at *;rw[gC]at h2;omega
def yx(v k:Nat)(h:1<=v)(h2:v<2^k):fx v<k:=by
 have h1:=yy v h;exact(Nat.pow_lt_pow_iff_right ω).1 (Nat.lt_of_le_of_lt h1 h2)
structure J0 where
 sym:Nat
 len:Nat
 dist:Nat
 far:Nat
 deriving DecidableEq
def aX(t:aU):J0:=if t.len=0 then⟨t.lit.toNat,0,0,0⟩else⟨257+fx (t.len-2),ix (t.len-2),fx t.dist,ix t.dist⟩
def qT(t:aU)(h:ex t=true)(d:t.len≠0):t.lit=0/\3<=t.len/\t.len<=257/\1<=t.dist/\t.dist<=4095:=by
 unfold ex at h;rw[ae d]at h;simp only[fL,en]at h;exact⟨h.1.1.1.1,h.1.1.1.2,h.1.1.2,h.1.2,h.2⟩
def xG(t:aU)(h:ex t=true):(aX t).sym<265/\(aX t).dist<12/\(aX t).len<256/\(aX t).far<4096/\((aX t).sym<256↔t.len=0)/\(t.len≠0->257<=(aX t).sym):=by
 unfold aX;by_cases d:t.len=0;·rw[af d];have:=t.lit.toNat_lt;exact⟨by show t.lit.toNat<265;omega,by show 0<12;omega,by show 0<256;omega,by show 0<4096;omega,by show t.lit.toNat<256↔_;omega,λh=>absurd d h⟩
 ·rw[ae d];obtain⟨_,h1,h2,h3,h4⟩:=qT t h d;have o:=yx (t.len-2) 8 ω (by have:(2:Nat)^8=256:=rfl;omega);have c2:=yx t.dist 12 h3 (by have:(2:Nat)^12=4096:=rfl;omega);have z:ix (t.len-2)<=t.len-2:=Nat.sub_le _ _;have A:ix t.dist<=t.dist:=Nat.sub_le _ _;exact⟨by show 257+fx (t.len-2)<265;omega,c2,by show ix _<256;omega,by show ix _<4096;omega,by show 257+fx (t.len-2)<256↔_;omega,λ_=>by show 257<=257+_;omega⟩
def fT(l:List aU)(k:Nat):Nat:=l.countP λt=>(aX t).sym == k
def j8(l:List aU)(k:Nat):Nat:=l.countP λt=>decide (t.len≠0) && ((aX t).dist == k)
def Mk(l:List aU)(t:aU)(k:Nat):fT (l++[t]) k=fT l k+if(aX t).sym=k then 1 else 0:=by simp[fT,List.countP_append,uw]
def SW(l:List aU)(t:aU)(k:Nat):j8 (l++[t]) k=j8 l k+if t.len≠0/\(aX t).dist=k then 1 else 0:=by simp[j8,List.countP_append,uw]
def wY(l:List aU)(k:Nat):fT l k<=l.length:=C4
def Bv(l:List aU)(k:Nat):j8 l k<=l.length:=C4
def gx(l:List aU):List Nat:=(List.range 265).map λk=>fT l k+if k=256 then 1 else 0
def iB(l:List aU):List Nat:=(List.range 12).map (j8 l)
def kg(a:Z0):Z0:=if bX a then dr a else []
def cD(a:Z0)(s:Nat):Z0:=if bX a then jb a s else []
def fR(a b:Z0)(t:aU):Z0:=
 cD a (aX t).sym++if t.len=0 then []else bP (aX t).len ((aX t).sym-257)++(cD b (aX t).dist++bP (aX t).far (aX t).dist)
def cX(a b:Z0)(l:List aU):Z0:=l.flatMap (fR a b)
def g9(a b:Z0)(l:List aU):Z0:=((kg a++kg b)++cX a b l)++cD a 256
def Ll(a b:Z0)(l:List aU)(t:aU):cX a b (l++[t])=cX a b l++fR a b t:=by simp[cX]
def CN(a:Z0):(kg a).length<=10*a.length:=by
 unfold kg;split;·exact CP a.length a (al _)
 ·simp
def Lq(a b:Z0)(t:aU)(d:ex t=true)(o:∀c∈a,c.toNat<=15)(z:∀c∈b,c.toNat<=15):(fR a b t).length<=50:=by
 have pl:∀(x:Z0) s,(∀c∈x,c.toNat<=15)->(cD x s).length<=15:=λx s h=>by
  unfold cD;split;·exact IK x s h
  ·simp
 have h1:=pl a (aX t).sym o;have h2:=pl b (aX t).dist z;obtain⟨p1,p2,p3,A,D,F⟩:=xG t d;unfold fR;split;·simp;omega
 ·simp only[am,fX];omega
def Lm(a b:Z0)(o:∀c∈a,c.toNat<=15)(z:∀c∈b,c.toNat<=15)(l:List aU)(d:∀t∈l,ex t=true):(cX a b l).length<=50*l.length:=by
 induction l with
 | nil=>simp[cX]
 | cons t l A=>have h1:=Lq a b t (d t σ) o z;have h2:=A (λt h=>d t (by simp[h]));unfold cX at *;rw[List.flatMap_cons,am,aL];omega
def d9(x:Nat):Nat:=if x%2=1 then(x / 2) ^^^ 3988292384 else x / 2
def tV(x c:Nat):Nat:=d9 (d9 (d9 (d9 (d9 (d9 (d9 (d9 (x ^^^ c))))))))
def ez(x:Nat)(l:Z0):Nat:=l.foldl (λx c=>tV x c.toNat) x
def iK(l:Z0):Nat:=4294967295-ez 4294967295 l
def lq(i:Nat):Nat:=d9 (d9 (d9 (d9 i)))
def yI(a b:Nat):d9 (a ^^^ b)=d9 a ^^^ d9 b:=by
 have h:=BM a b 0;simp only[Nat.pow_zero,Nat.div_one]at h;unfold d9;rw[Nat.xor_div_two];by_cases h1:a%2=1 <;> by_cases h2:b%2=1;·rw[ae (by rw[h];simp[h1,h2]),af h1,af h2,wN,Nat.xor_self,ug]
 ·rw[af (by rw[h];simp[h1,h2]),af h1,ae h2,pz,pz,Nat.xor_comm (b / 2)]
 ·rw[af (by rw[h];simp[h1,h2]),ae h1,af h2,pz]
 ·rw[ae (by rw[h];simp[h1,h2]),ae h1,ae h2]
def mO(x:Nat)(h:x<4294967296):d9 x<4294967296:=by
 unfold d9;have h1:x / 2<2^32:=ω
 split;·exact jV h1 δ
 ·omega
def MZ(x:Nat):x=(x / 16*16) ^^^ (x%16):=by
 apply Nat.eq_of_testBit_eq;intro j;rw[Nat.testBit_xor,show(16:Nat)=2^4 from rfl,Nat.testBit_mul_two_pow,Nat.testBit_mod_two_pow,Nat.testBit_div_two_pow];by_cases h:4<=j;·rw[show j-4+4=j by omega];simp[h];rw[br (by omega:¬j<4)];simp
 ·simp[h];omega
def Ds(x:Nat):d9 (d9 (d9 (d9 x)))=(x / 16) ^^^ lq (x%16):=by
 have e:d9 (d9 (d9 (d9 x)))=d9 (d9 (d9 (d9 ((x / 16*16) ^^^ (x%16))))):=by rw[<- MZ]
 rw[e,yI,yI,yI,yI];have h:∀y,d9 (2*y)=y:=λy=>by unfold d9;rw[ae ω];omega
 rw[show x / 16*16=2*(2*(2*(2*(x / 16)))) by omega,h,h,h,h];rfl
def UT(x c:Nat):tV x c=((x ^^^ c) / 16 ^^^ lq ((x ^^^ c)%16)) / 16 ^^^ lq (((x ^^^ c) / 16 ^^^ lq ((x ^^^ c)%16))%16):=by
 unfold tV;rw[Ds (x ^^^ c),Ds]
def Dt(i:Nat)(h:i<16):lq i<4294967296:=mO _ (mO _ (mO _ (mO _ ω)))
def UZ(x c:Nat)(d:x<4294967296)(h:c<256):tV x c<4294967296:=by
 have:x ^^^ c<2^32:=jV d ω;exact mO _ (mO _ (mO _ (mO _ (mO _ (mO _ (mO _ (mO _ this)))))))
def B7(l:Z0):∀x,x<4294967296->ez x l<4294967296:=by
 induction l with
 | nil=>intro x h;exact h
 | cons c l d=>intro x h;exact d _ (UZ x _ h c.toNat_lt)
def H4(x:Nat)(l:Z0)(k:Nat)(h:k<l.length):ez x (l.take (k+1))=tV (ez x (l.take k)) (l[k]).toNat:=by
 unfold ez;rw[f8 h,List.foldl_append];rfl
def Uh(x:Nat)(a b:Z0):ez x (a++b)=ez (ez x a) b:=by unfold ez;rw[List.foldl_append]
def au(l:Z0):Z0:=l++[UInt8.ofNat (iK l%256),UInt8.ofNat (iK l / 256%256),UInt8.ofNat (iK l / 65536%256),UInt8.ofNat (iK l / 16777216%256)]
def zV(l:Z0):iK l<4294967296:=by unfold iK;omega
def ao(x:Nat):Z0:=if h:x<128 then [UInt8.ofNat x]else UInt8.ofNat (128+x%128)::ao (x / 128)
termination_by x
def ve(x:Nat)(h:x<128):ao x=[UInt8.ofNat x]:=by rw[ao,dif_pos h]
def AP(x:Nat)(h:¬x<128):ao x=UInt8.ofNat (128+x%128)::ao (x / 128):=by rw[ao,dif_neg h]
def PW(k:Nat):∀x,x<128^(k+1)->(ao x).length<=k+1:=by
 induction k with
 | zero=>intro x h;rw[ve x ω];simp
 | succ k d=>
  intro x h;by_cases h1:x<128;·rw[ve x h1];simp
  ·rw[AP x h1];have:=d (x / 128) (by rw[gC]at h;exact Nat.div_lt_of_lt_mul (by rw[dX];exact h));simp;omega
def cJ(x:Nat)(h:x<18446744073709551616):(ao x).length<=10:=
 PW 9 x (nJ h δ)
def ci(s:Z0):Z0:=ao s.length++s
def dz:Nat->Nat->Z0
 | 0,_=>[]
 | n+1,x=>UInt8.ofNat (x%256)::dz n (x / 256)
def qb(n:Nat):∀x,(dz n x).length=n:=by
 induction n with
 | zero=>intro x;rfl
 | succ n d=>intro x;simp[dz,d]
def SB(n:Nat):∀(x i:Nat) (h:i<n),(dz n x)[i]'(by rw[qb];exact h)=UInt8.ofNat (x / 256^i%256):=by
 induction n with
 | zero=>intro x i h;omega
 | succ n d=>
  intro x i h
  cases i with
  | zero=>simp[dz]
  | succ i=>have:=d (x / 256) i ω;simp only[dz,C0];rw[this,uk,gC,dX]
def jF(d:Nat):Nat:=if d<9223372036854775808 then 2*d else 2*(18446744073709551615-d)+1
def cg{α:Type}(l:List α)(i:Nat)(d:α)(h:i<l.length):l.getD i d=l[i]:=by
 rw[bq,bj h];rfl
def jc(d:Z0)(c:Nat)(b:Z0):Z0:=d.zipWith (λx y=>UInt8.ofNat (x.toNat ^^^ aS c y.toNat)) b
def iM(M:Z0)(C i:Nat)(d:List Z0)(L:Nat):Nat->Z0
 | 0=>List.replicate L 0
 | j+1=>jc (iM M C i d L j) (M.getD (i*C+j) 0).toNat (d.getD j [])
def lI(M:Z0)(C R:Nat)(d:List Z0)(L:Nat):List Z0:=(List.range R).map λi=>iM M C i d L C
def rF(M:Z0)(C i:Nat)(d:List Z0)(L j:Nat)(h:∀p∈d,p.length=L)(z:j<=d.length):(iM M C i d L j).length=L:=by
 induction j with
 | zero=>simp[iM]
 | succ j o=>have h1:=o ω;have h2:(d.getD j []).length=L:=(by rw[bq,bj ω];exact h _ (bJ _));rw[iM,jc,List.length_zipWith,h1,h2,Nat.min_self]
def uJ(M:Z0)(C R:Nat)(d:List Z0)(L:Nat):(lI M C R d L).length=R:=by simp[lI]
def VW(d b:Z0)(c:Nat)(h:d.length=b.length):(jc d c b).length=d.length:=by unfold jc;rw[List.length_zipWith];omega
def Jf(l b:Z0)(h:l.length=b.length):jc l 0 b=l:=by
 apply gT;·simp[jc,h]
 ·intro i h1 h2;simp[jc,Fz]
def Jh(l b:Z0)(c i:Nat)(h1:i<l.length)(h2:i<b.length)(h3:i<(jc l c b).length):(jc l c b)[i]=UInt8.ofNat (l[i].toNat ^^^ aS c b[i].toNat):=by
 simp[jc]
def oX(M:Z0)(C i:Nat)(d:List Z0)(n:Nat):Nat->Nat
 | 0=>0
 | j+1=>oX M C i d n j ^^^ aS (M.getD (i*C+j) 0).toNat ((d.getD j []).getD n 0).toNat
def UL(M:Z0)(C i:Nat)(d:List Z0)(n j:Nat):oX M C i d n j<256:=by
 induction j with
 | zero=>simp[oX]
 | succ j h=>exact jV (n:=8) h (nU _ _ (nH _))
def NA(M:Z0)(C i:Nat)(d:List Z0)(L n j:Nat)(h:∀p∈d,p.length=L)(o:j<=d.length)(z:n<L):(iM M C i d L j)[n]'(by rw[rF M C i d L j h o];exact z)=UInt8.ofNat (oX M C i d n j):=by
 induction j with
 | zero=>simp[iM,oX]
 | succ j A=>have h1:=A ω;have F:=rF M C i d L j h ω;have h2:(d.getD j []).length=L:=(by rw[bq,bj ω];exact h _ (bJ _));have h3:(iM M C i d L (j+1))=jc (iM M C i d L j) (M.getD (i*C+j) 0).toNat (d.getD j []):=rfl;have h4:=Jh (iM M C i d L j) (d.getD j []) (M.getD (i*C+j) 0).toNat n ω ω (by rw[<- h3,rF M C i d L (j+1) h o];exact z);simp only[h3];rw[h4,h1,oX];have D:(UInt8.ofNat (oX M C i d n j)).toNat=oX M C i d n j:=(by rw[jp];exact nI (UL M C i d n j));rw[D];rw[cg (d.getD j []) n 0 ω]
def zO(M:Z0)(C R:Nat)(d:List Z0)(L i:Nat)(o:i<R)(h:i<(lI M C R d L).length):(lI M C R d L)[i]=iM M C i d L C:=by
 simp[lI]
def kw(l:Z0)(d n:Nat):Z0:=(List.range n).map λi=>l.getD (d+i) 0
def yl(l:Z0)(a n:Nat):(kw l a n).length=n:=by simp[kw]
def eX(l:Z0)(c a k:Nat):List Z0:=(List.range k).map λi=>kw l (a+i*c) c
def mC(l:Z0)(c a k:Nat):(eX l c a k).length=k:=by simp[eX]
def Pb(l:Z0)(c a k:Nat):eX l c a (k+1)=eX l c a k++[kw l (a+k*c) c]:=by simp[eX,jr]
def oJ(l:Z0)(c a k:Nat):∀p∈eX l c a k,p.length=c:=by
 intro p d;simp only[eX,ee]at d;obtain⟨i,_,rfl⟩:=d;exact yl _ _ _
def gy(d:List Z0):Z0:=(d.map au).flatten
def Ox(d:List Z0)(p:Z0):gy (d++[p])=gy d++au p:=by simp[gy]
def EO(a b:List Z0):gy (a++b)=gy a++gy b:=by simp[gy]
def gH(p:Z0):(au p).length=p.length+4:=by simp[au]
def A0(d:List Z0)(c:Nat)(h:∀p∈d,p.length=c):(gy d).length=d.length*(c+4):=by
 induction d with
 | nil=>simp[gy]
 | cons p d o=>have:gy (p::d)=au p++gy d:=(by simp[gy]);rw[this,am,gH,o (λq z=>h q (wA _ z)),h p (zi ..),aL,be];omega
def bz(l:Z0):Bool:=decide (4<=l.length) && decide (au (l.take (l.length-4))=l)
def bE(l:Z0):Z0:=if bz l then l.take (l.length-4)else []
def cK(l:Z0):Nat:=if bz l then 0 else if l.length<4 then 1 else 5
def tz(q:Z0):bz (au q)=true:=by
 have h:=gH q;have:(au q).take ((au q).length-4)=q:=by rw[h];unfold au;simp
 unfold bz;rw[this];simp[h]
def Ug(l:Z0)(h:bz l=true):(bE l).length=l.length-4:=by
 unfold bE;rw[af h,aA];omega
def eE(l:Z0):Nat × Nat:=
 if l.length<=4 then(0,1)else if l.take 4=[70,73,82,75]then(if 1<=(l.getD 4 0).toNat/\(l.getD 4 0).toNat<=3 then((l.getD 4 0).toNat,0)else(0,4))else(0,3)
def go(l:Z0):Bool:=bz l && decide (eE l=(3,0))
def bS{α:Type}(f:α->Nat)(l:List α):Nat:=(l.map f).sum
def CF{α:Type}(f:α->Nat)(l:List α)(k:Nat)(h:k<l.length):bS f (l.take (k+1))=bS f (l.take k)+f l[k]:=by
 unfold bS;rw[f8 h,eD,ot];simp
def oB{α:Type}(f:α->Nat)(m:Nat)(l:List α)(h:∀x∈l,f x<=m):bS f l<=l.length*m:=by
 induction l with
 | nil=>simp[bS]
 | cons x l d=>have h1:=h x (zi ..);have h2:=d (λy o=>h y (wA _ o));unfold bS at *;rw[dD,gQ,aL,be];omega
def Bl{α β:Type}(f:α->List β)(l:List α)(k:Nat)(h:k<l.length):((l.take (k+1)).map f).flatten=((l.take k).map f).flatten++f l[k]:=by
 rw[f8 h,eD,oz];simp
def kR{α β:Type}(f:α->List β)(l:List α):((l.map f).flatten).length=bS (λx=>(f x).length) l:=by
 induction l with
 | nil=>rfl
 | cons x l d=>unfold bS at *;simp[d]
def zD{α:Type}(f:α->Nat)(l:List α)(k:Nat):bS f (l.take k)<=bS f l:=by
 unfold bS;conv=>rhs;rw[<- jC k l]
 rw[eD,ot];omega
def CG{α:Type}(f g:α->Nat)(l:List α)(h:∀x∈l,f x<=g x):bS f l<=bS g l:=by
 induction l with
 | nil=>exact al _
 | cons x l d=>have h1:=h x (zi ..);have h2:=d (λy o=>h y (wA _ o));unfold bS at *;simp only[dD,gQ];omega
def lS{α:Type}(S:Nat)(f:α->Nat):Nat->Nat->List α->List Nat
 | c,_,[]=>[c]
 | c,h,r::l=>if h+f r<=S then lS S f (c+1) (h+f r) l else c::lS S f 1 (f r) l
def cZ{α:Type}(S:Nat)(f:α->Nat):List α->List Nat
 | []=>[]
 | r::l=>lS S f 1 (f r) l
def Sn{α:Type}(S:Nat)(f:α->Nat)(l:List α):∀c h,(lS S f c h l).sum=c+l.length:=by
 induction l with
 | nil=>intro c h;simp[lS]
 | cons r l d=>
  intro c h;rw[lS];split;·rw[d,aL];omega
  ·rw[gQ,d,aL];omega
def vA{α:Type}(S:Nat)(f:α->Nat)(l:List α):(cZ S f l).sum=l.length:=by
 cases l with
 | nil=>rfl
 | cons r l=>rw[cZ,Sn,aL];omega
def G9{α:Type}(S:Nat)(f:α->Nat)(l:List α):∀c h,1<=c->∀x∈lS S f c h l,1<=x:=by
 induction l with
 | nil=>intro c h o x d;simp[lS]at d;omega
 | cons r l z=>
  intro c h o x d;rw[lS]at d;split at d;·exact z _ _ ω x d
  ·rcases gR.1 d with rfl | d;·exact o
   ·exact z _ _ (al _) x d
def oW(t d:Nat):Nat:=(t+18446744073709551616-d)%18446744073709551616
def yj(t d:Nat):oW t d<18446744073709551616:=jB _ δ
def gu:Nat->List Nat->Z0
 | _,[]=>[]
 | d,t::l=>ao (jF (oW t d))++gu t l
def gW:UInt8->Nat->Z0->Z0
 | x,c,[]=>x::ao c
 | x,c,y::l=>if y=x then gW x (c+1) l else(x::ao c)++gW y 1 l
def gI:Z0->Z0
 | []=>[]
 | x::l=>gW x 1 l
def QW(l:Z0)(k:Nat)(h:k<l.length):gI (l.drop k)=gW l[k] 1 (l.drop (k+1)):=by rw[gE h];rfl
def Q0(x:UInt8)(c:Nat)(l:Z0)(k:Nat)(h:k<l.length)(e:l[k]=x):gW x c (l.drop k)=gW x (c+1) (l.drop (k+1)):=by rw[gE h,gW,af e]
def Q1(x:UInt8)(c:Nat)(l:Z0)(k:Nat)(h:k<l.length)(e:l[k]≠x):gW x c (l.drop k)=(x::ao c)++gI (l.drop k):=by rw[gE h,gW,ae e];rfl
def Q3(x:UInt8)(c:Nat)(l:Z0)(k:Nat)(h:l.length<=k):gW x c (l.drop k)=(x::ao c)++gI (l.drop k):=by rw[uu h];simp[gW,gI]
def LD(l:List Nat):∀d,(gu d l).length<=l.length*10:=by
 induction l with
 | nil=>intro d;simp[gu]
 | cons t l h=>intro d;have h1:=h t;have h2:=cJ (jF (oW t d)) (by have:=yj t d;unfold jF;split <;> omega);rw[gu,am,aL];omega
def Q2(l:Z0):∀x c,c+l.length<=1000000->(gW x c l).length<=(l.length+1)*11:=by
 induction l with
 | nil=>intro x c d;have:=cJ c (by simp at d;omega);simp[gW];omega
 | cons y l h=>
  intro x c d;rw[aL]at d;rw[gW];split;·have:=h x (c+1) ω;rw[aL];omega
  ·have h1:=h y 1 ω;have h2:=cJ c ω;rw[am,aL,aL];omega
def QZ(l:Z0)(h:l.length<=900000):(gI l).length<=l.length*11:=by
 cases l with
 | nil=>simp[gI]
 | cons x l=>have:=Q2 l x 1 (by rw[aL]at h;omega);rw[gI,aL];exact this
def et(d:Nat):Nat->List Nat->Bool
 | _,[]=>true
 | h,x::l=>decide (h<=x) && decide (x<d) && et d (x+1) l
def EC(d o:Nat)(l:List Nat)(k:Nat)(h:k<l.length):et d o (l.drop k)=(decide (o<=l[k]) && decide (l[k]<d) && et d (l[k]+1) (l.drop (k+1))):=by
 rw[gE h,et]
def NM(z:Nat)(l:List Nat):∀o,et z o l=true->∀x∈l,x<z:=by
 induction l with
 | nil=>intro o _ x d;simp at d
 | cons y l A=>
  intro o h x d;rw[et]at h;simp only[fL,en]at h;rcases gR.1 d with rfl | d;·exact h.1.2
  ·exact A _ h.2 x d
def xC(o:Nat)(l:List Nat):∀d,d<=o->et o d l=true->d+l.length<=o:=by
 induction l with
 | nil=>intro d h _;simpa using h
 | cons y l z=>intro d A h;rw[et]at h;simp only[fL,en]at h;have:=z (y+1) ω h.2;rw[aL];omega
def eG(w:Nat)(l:List Nat):Z0:=(l.map λx=>bP (x%2^w) w).flatten
def Tm(w:Nat)(l:List Nat)(k:Nat)(h:k<l.length):eG w (l.take (k+1))=eG w (l.take k)++bP (l[k]%2^w) w:=by
 unfold eG;exact Bl _ l k h
def By(w:Nat)(l:List Nat):(eG w l).length=l.length*w:=by
 induction l with
 | nil=>simp[eG]
 | cons x l d=>simp only[eG,dD,oy,am,fX]at *;rw[d,aL,be];omega
def ei(w:Nat):Nat->List Nat->Z0
 | _,[]=>[]
 | d,x::l=>lp (x / 2^w-d)++ei w (x / 2^w) l
def Tq(w d:Nat)(l:List Nat)(k:Nat)(h:k<l.length):ei w d (l.drop k)=lp (l[k] / 2^w-d)++ei w (l[k] / 2^w) (l.drop (k+1)):=by
 rw[gE h,ei]
def sV(n:Nat):(lp n).length=n+1:=by simp[lp]
def gY(d:Nat)(l:List Nat):Z0:=
 ao l.length++if l=[]then []else cx (eG (Nat.log2 (d / l.length)) l++ei (Nat.log2 (d / l.length)) 0 l)
def QD(q k:Nat)(h1:2^k<=q)(h2:q<2^(k+1)):Nat.log2 q=k:=(Nat.log2_eq_iff (by have:=lh k;omega)).2 ⟨h1,h2⟩
def bK(key:Nat->Nat)(a b:Nat):Prop:=key a<key b\/(key a=key b/\a<b)
def lO{key:Nat->Nat}{a b c:Nat}(h:bK key a b)(k:bK key b c):bK key a c:=by unfold bK at *;omega
def Q4{key:Nat->Nat}{a b:Nat}(h:bK key a b):¬bK key b a:=by unfold bK at *;omega
abbrev oZ(key:Nat->Nat)(l:List Nat):Prop:=l.Pairwise (bK key)
def MW{key:Nat->Nat}{l m:List Nat}(d:l.Perm m)(h1:oZ key l)(h2:oZ key m):l=m:=
 d.eq_of_pairwise (λ_ _ _ _ h k=>absurd k (Q4 h)) h1 h2
def og(f:Nat->Bool):Nat->Nat
 | 0=>0
 | n+1=>if f n then og f n else n+1
def T4(f:Nat->Bool)(n:Nat):og f n<=n:=by
 induction n with
 | zero=>exact al _
 | succ n d=>rw[og];split <;> omega
def T3(f:Nat->Bool)(n:Nat):∀i,og f n<=i->i<n->f i=true:=by
 induction n with
 | zero=>intro i _ h;omega
 | succ n d=>
  intro i h1 h2;rw[og]at h1;split at h1
  ·by_cases e:i=n;·subst e;assumption
   ·exact d i h1 ω
  ·omega
def T1(f:Nat->Bool)(n:Nat)(h:og f n≠0):f (og f n-1)=false:=by
 induction n with
 | zero=>exact absurd rfl h
 | succ n o=>
  rw[og]at h ⊢;split;·rename_i d;rw[af d]at h;exact o h
  ·rename_i d;simpa using d
def pM(key:Nat->Nat)(l:List Nat)(x:Nat):List Nat:=
 l.take (og (λi=>decide (key x<key (l.getD i 0))) l.length)++x::l.drop (og (λi=>decide (key x<key (l.getD i 0))) l.length)
def O2(key:Nat->Nat)(l:List Nat)(x:Nat):(pM key l x).Perm (x::l):=by
 unfold pM;refine List.perm_middle.trans ?_;rw[jC]
def O1(key:Nat->Nat)(l:List Nat)(x:Nat)(h:oZ key l)(I:∀y∈l,y<x):oZ key (pM key l x):=by
 unfold pM;have M:=T4 (λi=>decide (key x<key (l.getD i 0))) l.length;have J:=T3 (λi=>decide (key x<key (l.getD i 0))) l.length;have K:=T1 (λi=>decide (key x<key (l.getD i 0))) l.length;generalize og (λi=>decide (key x<key (l.getD i 0))) l.length=d at *;have h1:∀y∈l.take d,bK key y x:=by
  intro y o;obtain⟨i,z,rfl⟩:=Cz o;have A:i<d:=(by have:=z;rw[aA]at this;omega);have F:i<l.length:=ω;rw[qz];have L:=K ω;simp only[sw,Nat.not_lt,bq,bj (show d-1<l.length by omega),Option.getD_some]at L;have O:key l[i]<=key (l[d-1]'ω):=by
   by_cases e:i=d-1;·subst e;exact al _
   ·have:=rt.1 h i (d-1) F ω ω;unfold bK at this;omega
  have:=I l[i] (bJ F);unfold bK;omega
 have h2:∀y∈l.drop d,bK key x y:=by intro y o;obtain⟨i,z,rfl⟩:=Cz o;have A:d+i<l.length:=(by have:=z;rw[aN]at this;omega);rw[s9];have:=J (d+i) ω A;simp only[en,bq,bj A,Option.getD_some]at this;exact .inl this
 refine Cw.2 ⟨h.sublist (List.take_sublist _ _),kG.2 ⟨h2,h.sublist (List.drop_sublist _ _)⟩,λa G b D=>?_⟩;rcases gR.1 D with rfl | D;·exact h1 a G
 ·exact lO (h1 a G) (h2 b D)
def uG(key:Nat->Nat)(l:List Nat):List Nat:=l.foldl (pM key) []
def Da(key:Nat->Nat):∀(l d:List Nat),oZ key d->(∀y∈d,∀x∈l,y<x)->l.Pairwise (·<·)->oZ key (l.foldl (pM key) d)/\(l.foldl (pM key) d).Perm (d++l):=by
 intro l
 induction l with
 | nil=>intro d o _ _;exact⟨o,σ⟩
 | cons x l I=>
  intro d o A J;have D:=kG.1 J;have F:=O2 key d x;obtain ⟨h1, h2⟩ := I (pM key d x) (O1 key d x o fun y h => A y h x (by simp)) (fun y h z G => by
    rcases gR.1 (F.mem_iff.1 h) with rfl | h;·exact D.1 z G
    · exact A y h z (by simp[G])) D.2
  refine⟨h1,h2.trans ?_⟩;exact(F.append_right l).trans (List.perm_middle.symm)
def CZ(key:Nat->Nat)(l:List Nat)(d:l.Pairwise (·<·)):oZ key (uG key l):=(Da key l [] List.Pairwise.nil σ d).1
def qC(key:Nat->Nat)(l:List Nat)(d:l.Pairwise (·<·)):(uG key l).Perm l:=by
 have h:=(Da key l [] List.Pairwise.nil σ d).2;rw[fJ]at h;exact h
def KJ(key:Nat->Nat)(l m:List Nat)(d:l.Pairwise (·<·))(h:m.Perm l)(o:oZ key m):m=uG key l:=
 MW (h.trans (qC key l d).symm) o (CZ key l d)
def iw(f:Nat->Nat)(a b:Nat):List Nat:=(List.range (b-a)).map λi=>f (a+i)
def Nm(f:Nat->Nat)(a b:Nat):(iw f a b).length=b-a:=by simp[iw]
def th(f:Nat->Nat)(a m b:Nat)(h1:a<=m)(h2:m<=b):iw f a b=iw f a m++iw f m b:=by
 unfold iw;rw[show b-a=(m-a)+(b-m) by omega,List.range_add,eD,jE];congr 1;refine iV λi _=>?_;show f (a+(m-a+i))=f (m+i);congr 1;omega
def El(f g:Nat->Nat)(a b:Nat)(h:∀p,a<=p->p<b->f p=g p):iw f a b=iw g a b:=by
 unfold iw;refine iV λi d=>?_;have:=dN.1 d;exact h _ ω ω
def Ek(f g:Nat->Nat)(a b c d:Nat)(o:b-a=d-c)(h:∀i,i<b-a->f (a+i)=g (c+i)):iw f a b=iw g c d:=by
 unfold iw;rw[<- o];exact iV λi z=>h i (dN.1 z)
def F7(f:Nat->Nat)(a b x:Nat):x∈iw f a b↔∃p,a<=p/\p<b/\f p=x:=by
 unfold iw;rw[ee];constructor;·rintro⟨i,d,rfl⟩;have:=dN.1 d;exact⟨a+i,ω,ω,rfl⟩
 ·rintro⟨p,h1,h2,rfl⟩;exact⟨p-a,dN.2 ω,by congr 1;omega⟩
def Em(f:Nat->Nat)(a b i:Nat)(h:i<(iw f a b).length):(iw f a b)[i]=f (a+i):=by simp[iw]
def du(f f':Nat->Nat)(a b:Nat):Prop:=(∀p,p<a\/b<=p->f' p=f p)/\(iw f' a b).Perm (iw f a b)
def du.refl(f:Nat->Nat)(a b:Nat):du f f a b:=⟨λ_ _=>rfl,List.Perm.refl _⟩
def du.trans{f g h:Nat->Nat}{a b:Nat}(h1:du f g a b)(h2:du g h a b):du f h a b:=⟨λp d=>(h2.1 p d).trans (h1.1 p d),h2.2.trans h1.2⟩
def du.congr{f g d:Nat->Nat}{a b:Nat}(h1:du f g a b)(h2:∀p,d p=g p):du f d a b:=by
 have:d=g:=funext h2;rw[this];exact h1
def du.widen{f f':Nat->Nat}{a b o d:Nat}(h:du f f' a b)(h1:o<=a)(h2:a<=b)(h3:b<=d):du f f' o d:=by
 refine⟨λp z=>h.1 p ω,?_⟩;rw[th f' o a d h1 ω,th f' a b d h2 h3,th f o a d h1 ω,th f a b d h2 h3];rw[El f' f o a (λp _ z=>h.1 p ω),El f' f b d (λp z _=>h.1 p ω)];exact(List.Perm.refl _).append (h.2.append (List.Perm.refl _))
def du.mem{f f':Nat->Nat}{a b:Nat}(h:du f f' a b)(p:Nat)(h1:a<=p)(h2:p<b):∃q,a<=q/\q<b/\f' p=f q:=by
 have:f' p∈iw f a b:=h.2.mem_iff.1 ((F7 f' a b _).2 ⟨p,h1,h2,rfl⟩);obtain⟨q,h3,h4,h5⟩:=(F7 f a b _).1 this;exact⟨q,h3,h4,h5.symm⟩
def aP(f:Nat->Nat)(a m b p:Nat):Nat:=if a<=p/\p<a+(b-m)then f (p+m-a)else if a+(b-m)<=p/\p<b then f (p-(b-m))else f p
def xB(f:Nat->Nat)(a m b:Nat)(h1:a<=m)(h2:m<=b):du f (aP f a m b) a b:=by
 refine⟨λp h=>by unfold aP;rw[ae ω,ae ω],?_⟩;rw[th (aP f a m b) a (a+(b-m)) b ω ω,th f a m b h1 h2];rw[Ek (aP f a m b) f a (a+(b-m)) m b ω (λi d=>by unfold aP;rw[af ω];congr 1;omega)];rw[Ek (aP f a m b) f (a+(b-m)) b a m ω (λi d=>by unfold aP;rw[ae ω,af ω];congr 1;omega)];exact List.perm_append_comm
def kh(f:Nat->Nat)(a b n p:Nat):Nat:=if a<=p/\p<a+n then f (p-a+b)else if b<=p/\p<b+n then f (p-b+a)else f p
def Mz(f:Nat->Nat)(a b p:Nat):kh f a b 0 p=f p:=by unfold kh;rw[ae ω,ae ω]
def lx(f:Nat->Nat)(i j p:Nat):Nat:=if p=j then f i else if p=i then f j else f p
def M0(f:Nat->Nat)(a b n p:Nat)(h:a+n<b):lx (kh f a b n) (a+n) (b+n) p=kh f a b (n+1) p:=by
 unfold lx kh;repeat' split
 all_goals first
  | rfl
  | (congr 1;omega)
  | (exfalso;omega)
def NJ(f:Nat->Nat)(m i p:Nat)(h:i<=m):kh f (m-i) m i p=aP f (m-i) m (m+i) p:=by
 unfold kh aP;repeat' split
 all_goals first
  | rfl
  | (congr 1;omega)
  | (exfalso;omega)
def NI(f:Nat->Nat)(m i j p:Nat)(h:i<=m)(d:j<i):aP (kh f (m-i) m j) (m-(i-j)) m (m+j) p=aP f (m-i) m (m+j) p:=by
 unfold aP kh;repeat' split
 all_goals first
  | rfl
  | (congr 1;omega)
  | (exfalso;omega)
def NH(f:Nat->Nat)(m i j p:Nat)(h:i<=m)(d:i<j):aP (kh f (m-i) (m+j-i) i) (m-i) m (m+(j-i)) p=aP f (m-i) m (m+j) p:=by
 unfold aP kh;repeat' split
 all_goals first
  | rfl
  | (congr 1;omega)
  | (exfalso;omega)
def NG(f:Nat->Nat)(a k p:Nat)(h:a<=k):lx (aP f a (a+1) (k+1)) k (k+1) p=aP f a (a+1) (k+2) p:=by
 unfold lx aP;repeat' split
 all_goals first
  | rfl
  | (congr 1;omega)
  | (exfalso;omega)
def E9(f:Nat->Nat)(m k p:Nat)(h:k<=m)(d:0<k):lx (aP f k m (m+1)) k (k-1) p=aP f (k-1) m (m+1) p:=by
 unfold lx aP;repeat' split
 all_goals first
  | rfl
  | (congr 1;omega)
  | (exfalso;omega)
def Ak(f:Nat->Nat)(a b p:Nat)(h:a<=b):aP f a a b p=f p:=by
 unfold aP;repeat' split
 all_goals first
  | rfl
  | (congr 1;omega)
  | (exfalso;omega)
def EA(f:Nat->Nat)(a m p:Nat):aP f a m m p=f p:=by
 unfold aP;repeat' split
 all_goals first
  | rfl
  | (congr 1;omega)
  | (exfalso;omega)
def bW(key:Nat->Nat)(f:Nat->Nat)(a b:Nat):Prop:=∀i j,a<=i->i<j->j<b->bK key (f i) (f j)
def bW.list{key f:Nat->Nat}{a b:Nat}(h:bW key f a b):oZ key (iw f a b):=by
 rw[oZ,rt];intro i j d o z;rw[Em,Em];rw[Nm]at d o;exact h _ _ ω ω ω
def bW.sub{key f:Nat->Nat}{a b c d:Nat}(h:bW key f a b)(h1:a<=c)(h2:d<=b):bW key f c d:=λi j x y z=>h i j ω y ω
def bW.congr{key f g:Nat->Nat}{a b:Nat}(h:bW key f a b)(d:∀p,a<=p->p<b->g p=f p):bW key g a b:=λi j x y z=>by rw[d i x ω,d j ω z];exact h i j x y z
def mH(g:Nat->Nat)(j i p:Nat):Nat:=aP g j i (i+1) p
def Gz(key g:Nat->Nat)(a j i:Nat)(z:bW key g a i)(h1:a<=j)(h2:j<=i)(F:∀p,a<=p->p<j->bK key (g p) (g i))(G:∀p,j<=p->p<i->bK key (g i) (g p)):bW key (mH g j i) a (i+1):=by
 have A:∀p,p<j->mH g j i p=g p:=λp h=>by unfold mH aP;rw[ae ω,ae ω]
 have D:mH g j i j=g i:=by unfold mH aP;rw[af ω];congr 1;omega
 have o:∀p,j<p->p<=i->mH g j i p=g (p-1):=λp h I=>by unfold mH aP;rw[ae ω,af ω];congr 1;omega
 intro p q h J I;rcases qr p j with c | c | c
 ·rw[A p c];rcases qr q j with d | d | d;·rw[A q d];exact z p q h J ω
  ·rw[d,D];exact F p h c
  ·rw[o q d ω];exact z p (q-1) h ω ω
 ·rw[c,D,o q ω ω];exact G _ ω ω
 ·rw[o p c ω,o q ω ω];exact z _ _ ω ω ω
def pe(f:Nat->Nat)(a m b:Nat):Prop:=∀p q,a<=p->p<m->m<=q->q<b->f p<f q
def Cc{key f:Nat->Nat}{a m b:Nat}(h:pe f a m b){p q:Nat}(h1:a<=p)(h2:p<m)(h3:m<=q)(h4:q<b):(key (f q)<key (f p)↔bK key (f q) (f p))/\(¬key (f q)<key (f p)↔bK key (f p) (f q)):=by
 have:=h p q h1 h2 h3 h4;unfold bK;omega
def Qn(key f:Nat->Nat)(a b i:Nat)(o:bW key f (a+1) b)(h1:a+1<=i)(h2:i<=b)(F:∀p,a+1<=p->p<i->bK key (f p) (f a))(G:∀p,i<=p->p<b->bK key (f a) (f p)):bW key (aP f a (a+1) i) a b:=by
 have A:∀p,a<=p->p<i-1->aP f a (a+1) i p=f (p+1):=λp z I=>by unfold aP;rw[af ω];congr 1;omega
 have D:aP f a (a+1) i (i-1)=f a:=by unfold aP;rw[ae ω,af ω];congr 1;omega
 have h:∀p,i<=p->aP f a (a+1) i p=f p:=λp z=>by unfold aP;rw[ae ω,ae ω]
 intro p q z J I;rcases qr p (i-1)with c | c | c
 ·rw[A p z c];rcases qr q (i-1)with d | d | d;·rw[A q ω d];exact o _ _ ω ω ω
  ·rw[d,D];exact F _ ω ω
  ·rw[h q ω];exact o _ _ ω ω ω
 ·rw[c,D,h q ω];exact G _ ω ω
 ·rw[h p ω,h q ω];exact o _ _ ω ω ω
def Mr(key f g:Nat->Nat)(a mid b:Nat)(h1:bW key g a mid)(h2:bW key g mid b)(A:∀p,a<=p->p<mid->∃q,a<=q/\q<mid/\g p=f q)(D:∀p,mid<=p->p<b->∃q,mid<=q/\q<b/\g p=f q)(F:∀p q,a<=p->p<mid->mid<=q->q<b->bK key (f p) (f q)):bW key g a b:=by
 intro p q h o z;by_cases c:q<mid;·exact h1 p q h o c
 ·by_cases d:mid<=p;·exact h2 p q d o z
  ·obtain⟨G,I,J,K⟩:=A p h ω;obtain⟨L,M,O,Q⟩:=D q ω z;rw[K,Q];exact F G L I J M O
def Aj(f:Nat->Nat)(s m e p:Nat)(h:p<s):aP f s m e p=f p:=by unfold aP;rw[ae ω,ae ω]
def xA(f:Nat->Nat)(s m e p:Nat)(h:s<=p)(h2:p<s+(e-m)):aP f s m e p=f (p+m-s):=by unfold aP;rw[af ω]
def xz(f:Nat->Nat)(s m e p:Nat)(h:s+(e-m)<=p)(h2:p<e):aP f s m e p=f (p-(e-m)):=by unfold aP;rw[ae ω,af ω]
def Ai(f:Nat->Nat)(s m e p:Nat)(h:e<=p)(d:s<=m)(o:m<=e):aP f s m e p=f p:=by unfold aP;rw[ae ω,ae ω]
section
variable {key f:Nat->Nat} {a m b mid s e:Nat} (h1:a<=s) (h2:s<=m) (h3:m<=e) (h4:e<=b) (h5:e+s=mid+m)
include h1 h2 h3 h4 h5
theorem Mq(p:Nat)(d:a<=p)(h:p<mid):(p<s/\aP f s m e p=f p)\/(s<=p/\m<=p+m-s/\p+m-s<e/\aP f s m e p=f (p+m-s)):=by
 by_cases c:p<s;·exact .inl ⟨c,Aj f s m e p c⟩
 ·exact .inr ⟨ω,ω,ω,xA f s m e p ω ω⟩
theorem D9(p:Nat)(d:mid<=p)(h:p<b):(p<e/\s<=p-(e-m)/\p-(e-m)<m/\aP f s m e p=f (p-(e-m)))\/(e<=p/\aP f s m e p=f p):=by
 by_cases c:p<e;·exact .inl ⟨c,ω,ω,xz f s m e p ω c⟩
 ·exact .inr ⟨ω,Ai f s m e p ω h2 h3⟩
theorem Ms(D:bW key f a m)(F:bW key f m b)(M:a<s->e<b->bK key (f (s-1)) (f e))(O:s<m->m<e->bK key (f (e-1)) (f s)):∀p q,a<=p->p<mid->mid<=q->q<b->bK key (aP f s m e p) (aP f s m e q):=by
 intro p q G Q K o;have R:∀x y,a<=x->x<=y->y<m->∀z,bK key (f y) z->bK key (f x) z:=λx y i j k z d=>by
  by_cases c:x=y;·rw[c];exact d
  ·exact lO (D x y i ω k) d
 have U:∀x y,m<=x->x<=y->y<b->∀z,bK key z (f x)->bK key z (f y):=λx y i j k z d=>by
  by_cases c:x=y;·rw[<- c];exact d
  ·exact lO d (F x y i ω k)
 have V:∀x y,m<=x->x<=y->y<b->∀z,bK key (f y) z->bK key (f x) z:=λx y i j k z d=>by
  by_cases c:x=y;·rw[c];exact d
  ·exact lO (F x y i ω k) d
 have X:∀x y,a<=x->x<=y->y<m->∀z,bK key z (f x)->bK key z (f y):=λx y i j k z d=>by
  by_cases c:x=y;·rw[<- c];exact d
  ·exact lO d (D x y i ω k)
 rcases Mq (f:=f) h1 h2 h3 h4 h5 p G Q with⟨Y,c2⟩ | ⟨Y,c2,Z,L⟩
 ·rcases D9 (f:=f) h1 h2 h3 h4 h5 q K o with⟨A,h,I,J⟩ | ⟨A,h⟩;·rw[c2,J];exact D _ _ G ω I
  ·rw[c2,h];exact R p (s-1) G ω ω _ (U e q h3 A o _ (M ω ω))
 ·rcases D9 (f:=f) h1 h2 h3 h4 h5 q K o with⟨A,h,I,J⟩ | ⟨A,h⟩;·rw[L,J];exact V _ (e-1) c2 ω ω _ (X s _ h1 h I _ (O ω ω))
  ·rw[L,h];exact F _ _ c2 ω o
theorem Mp(d:bW key f a m):bW key (aP f s m e) a s:=(d.sub (al a) h2).congr λp _ h=>Aj f s m e p h
theorem Mo(d:bW key f m b):bW key (aP f s m e) s mid:=λi j x y z=>by
 rw[xA f s m e i x ω,xA f s m e j ω ω]
 exact d _ _ ω ω ω
theorem Mn(d:bW key f a m):bW key (aP f s m e) mid e:=λi j x y z=>by
 rw[xz f s m e i ω ω,xz f s m e j ω ω]
 exact d _ _ ω ω ω
theorem Mm(d:bW key f m b):bW key (aP f s m e) e b:=(d.sub h3 (al b)).congr λp h _=>Ai f s m e p h h2 h3
theorem Mu(d:pe f a m b):pe (aP f s m e) a s mid:=λp q x y z t=>by
 rw[Aj f s m e p y,xA f s m e q z ω]
 exact d _ _ x ω ω ω
theorem Mt(d:pe f a m b):pe (aP f s m e) mid e b:=λp q x y z t=>by
 rw[xz f s m e p ω y,Ai f s m e q z h2 h3]
 exact d _ _ ω ω ω t
end
def Nq(key f:Nat->Nat)(a m b d o p c:Nat)(G:bW key f a m)(I:bW key f m b)(h1:a<=d)(h2:o<=m)(h3:∀x,d<=x->x<o->m<=p-x/\p-x<b/\x<=p)(J:d<=c)(K:c<o):(bK key (f c) (f (p-c))->∀x,d<=x->x<c+1->bK key (f x) (f (p-x)))/\(bK key (f (p-c)) (f c)->∀x,c<=x->x<o->bK key (f (p-x)) (f x)):=by
 refine⟨λh x L M=>?_,λh x L M=>?_⟩
 ·by_cases e:x=c;·rw[e];exact h
  ·have z:=G x c ω ω ω;have A:=h3 x L ω;have D:=h3 c J K;have F:=I (p-c) (p-x) D.1 ω A.2.1;exact lO z (lO h F)
 ·by_cases e:x=c;·rw[e];exact h
  ·have z:=G c x ω ω ω;have A:=h3 x ω M;have D:=h3 c J K;have F:=I (p-x) (p-c) A.1 ω D.2.1;exact lO F (lO h z)
