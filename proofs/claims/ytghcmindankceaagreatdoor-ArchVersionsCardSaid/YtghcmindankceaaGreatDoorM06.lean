/- Parts of the proof of ArchVersions: SpecG SpecN SpecQ SpecZ SpecK SpecW. -/
set_option linter.unusedVariables false
set_option linter.unusedSectionVars false
set_option linter.unusedSimpArgs false
set_option maxHeartbeats 8000000
namespace Go.Fk
def twN(a:Nat):Nat:=if a<128 then 2*a else(2*a - 256) ^^^ 29
def mulGo:Nat->Nat->Nat->Nat->Nat
 | 0,_,_,o=>o
 | f+1,a,b,o=>if b=0 then o else mulGo f (twN a) (b / 2) (if b % 2=1 then o ^^^ a else o)
def mulN(a b:Nat):Nat:=mulGo 8 a b 0
def polyGo(a b:Nat):Nat->Nat->Nat
 | 0,p=>p
 | f+1,p=>polyGo a b f (if b / 2 ^ (7 - f) % 2=1 then p ^^^ (a*2 ^ (7 - f))else p)
def redGo:Nat->Nat->Nat
 | 0,p=>p
 | f+1,p=>redGo f (if p / 2 ^ (f+8) % 2=1 then p ^^^ (285*2 ^ f)else p)
def mulR(a b:Nat):Nat:=redGo 7 (polyGo a b 8 0)
def powGo:Nat->Nat->Nat->Nat->Nat
 | 0,_,_,o=>o
 | f+1,a,n,o=>if n=0 then o else powGo f (mulN a a) (n / 2) (if n % 2=1 then mulN o a else o)
def invN(a:Nat):Nat:=powGo 8 a 254 1
def allB(n:Nat)(p:Nat->Bool):Bool:=
 match n with
 | 0=>true
 | n+1=>p n && allB n p
theorem allB_out(n:Nat)(p:Nat->Bool)(h:allB n p=true):∀ i,i<n->p i=true:=by
 induction n with
 | zero=>intro i hi;omega
 | succ n ih=>
  rw [allB,Bool.and_eq_true]at h
  intro i hi
  by_cases e:i=n
  · subst e;exact h.1
  · exact ih h.2 i (by omega)
def sumG:Nat->Nat->Nat->Nat
 | 0,_,_=>0
 | f+1,a,b=>(if b % 2=1 then a else 0) ^^^ sumG f (twN a) (b / 2)
theorem bit_xor(p q k:Nat):((p ^^^ q) / 2 ^ k % 2=1)↔¬((p / 2 ^ k % 2=1)↔(q / 2 ^ k % 2=1)):=by
 have h:=Nat.testBit_xor p q k
 rw [Nat.testBit_eq_decide_div_mod_eq,Nat.testBit_eq_decide_div_mod_eq,Nat.testBit_eq_decide_div_mod_eq]at h
 by_cases h1:p / 2 ^ k % 2=1 <;> by_cases h2:q / 2 ^ k % 2=1 <;> simp [h1,h2]at h ⊢ <;> exact h
theorem xor_cross(a b c d:Nat):(a ^^^ b) ^^^ (c ^^^ d)=(a ^^^ c) ^^^ (b ^^^ d):=by
 rw [Nat.xor_assoc,<- Nat.xor_assoc b c d,Nat.xor_comm b c,Nat.xor_assoc c b d,<- Nat.xor_assoc]
def twI:Nat->Nat->Nat
 | 0,a=>a
 | n+1,a=>twI n (twN a)
def bitAt(i k:Nat):Nat:=if i / 2 ^ k % 2=1 then 2 ^ k else 0
def bits8(i:Nat):Nat:=bitAt i 0 ^^^ (bitAt i 1 ^^^ (bitAt i 2 ^^^ (bitAt i 3 ^^^ (bitAt i 4 ^^^ (bitAt i 5 ^^^ (bitAt i 6 ^^^ bitAt i 7))))))
def numB(x:Nat):List UInt8:=if h:x<128 then [UInt8.ofNat x]else UInt8.ofNat (128+x % 128)::numB (x / 128)
termination_by x
theorem numB_one(x:Nat)(h:x<128):numB x=[UInt8.ofNat x]:=by rw [numB,dif_pos h]
theorem numB_more(x:Nat)(h:¬x<128):numB x=UInt8.ofNat (128+x % 128)::numB (x / 128):=by rw [numB,dif_neg h]
theorem numB_len(k:Nat):∀ x,x<128 ^ (k+1)->(numB x).length<=k+1:=by
 induction k with
 | zero=>intro x h;rw [numB_one x (by omega)];simp
 | succ k ih=>
  intro x h
  by_cases h1:x<128
  · rw [numB_one x h1];simp
  · rw [numB_more x h1]
    have:=ih (x / 128) (by rw [Nat.pow_succ]at h;exact Nat.div_lt_of_lt_mul (by rw [Nat.mul_comm];exact h))
    simp;omega
theorem numB_le(x:Nat)(h:x<18446744073709551616):(numB x).length<=10:=
 numB_len 9 x (Nat.lt_of_lt_of_le h (by decide))
def textB(s:List UInt8):List UInt8:=numB s.length++s
def fixB:Nat->Nat->List UInt8
 | 0,_=>[]
 | n+1,x=>UInt8.ofNat (x % 256)::fixB n (x / 256)
def zigN(d:Nat):Nat:=if d<9223372036854775808 then 2*d else 2*(18446744073709551615 - d)+1
def wtS{α:Type}(f:α->Nat)(l:List α):Nat:=(l.map f).sum
theorem wtS_snoc{α:Type}(f:α->Nat)(l:List α)(k:Nat)(h:k<l.length):wtS f (l.take (k+1))=wtS f (l.take k)+f l[k]:=by
 unfold wtS;rw [List.take_succ_eq_append_getElem h,List.map_append,List.sum_append];simp
theorem wtS_le{α:Type}(f:α->Nat)(m:Nat)(l:List α)(h:∀ x∈l,f x<=m):wtS f l<=l.length*m:=by
 induction l with
 | nil=>simp [wtS]
 | cons x l ih=>
  have h1:=h x (List.mem_cons_self ..)
  have h2:=ih (fun y hy=>h y (List.mem_cons_of_mem _ hy))
  unfold wtS at *
  rw [List.map_cons,List.sum_cons,List.length_cons,Nat.add_mul];omega
theorem flat_map_snoc{α β:Type}(f:α->List β)(l:List α)(k:Nat)(h:k<l.length):((l.take (k+1)).map f).flatten=((l.take k).map f).flatten++f l[k]:=by
 rw [List.take_succ_eq_append_getElem h,List.map_append,List.flatten_append];simp
theorem flat_len{α β:Type}(f:α->List β)(l:List α):((l.map f).flatten).length=wtS (fun x=>(f x).length) l:=by
 induction l with
 | nil=>rfl
 | cons x l ih=>unfold wtS at *;simp [ih]
theorem wtS_take_le{α:Type}(f:α->Nat)(l:List α)(k:Nat):wtS f (l.take k)<=wtS f l:=by
 unfold wtS
 conv=>rhs;rw [<- List.take_append_drop k l]
 rw [List.map_append,List.sum_append];omega
theorem wtS_mono{α:Type}(f g:α->Nat)(l:List α)(h:∀ x∈l,f x<=g x):wtS f l<=wtS g l:=by
 induction l with
 | nil=>exact Nat.le_refl _
 | cons x l ih=>
  have h1:=h x (List.mem_cons_self ..)
  have h2:=ih (fun y hy=>h y (List.mem_cons_of_mem _ hy))
  unfold wtS at *
  simp only [List.map_cons,List.sum_cons];omega
def grpGo{α:Type}(S:Nat)(f:α->Nat):Nat->Nat->List α->List Nat
 | c,_,[]=>[c]
 | c,h,r::l=>if h+f r<=S then grpGo S f (c+1) (h+f r) l else c::grpGo S f 1 (f r) l
def groupsL{α:Type}(S:Nat)(f:α->Nat):List α->List Nat
 | []=>[]
 | r::l=>grpGo S f 1 (f r) l
theorem grpGo_sum{α:Type}(S:Nat)(f:α->Nat)(l:List α):∀ c h,(grpGo S f c h l).sum=c+l.length:=by
 induction l with
 | nil=>intro c h;simp [grpGo]
 | cons r l ih=>
  intro c h
  rw [grpGo]
  split
  · rw [ih,List.length_cons];omega
  · rw [List.sum_cons,ih,List.length_cons];omega
theorem groupsL_sum{α:Type}(S:Nat)(f:α->Nat)(l:List α):(groupsL S f l).sum=l.length:=by
 cases l with
 | nil=>rfl
 | cons r l=>rw [groupsL,grpGo_sum,List.length_cons];omega
theorem grpGo_pos{α:Type}(S:Nat)(f:α->Nat)(l:List α):∀ c h,1<=c->∀ x∈grpGo S f c h l,1<=x:=by
 induction l with
 | nil=>intro c h hc x hx;simp [grpGo]at hx;omega
 | cons r l ih=>
  intro c h hc x hx
  rw [grpGo]at hx
  split at hx
  · exact ih _ _ (by omega) x hx
  · rcases List.mem_cons.1 hx with rfl | hx
    · exact hc
    · exact ih _ _ (Nat.le_refl _) x hx
def dif64(t was:Nat):Nat:=(t+18446744073709551616 - was) % 18446744073709551616
def timesGo:Nat->List Nat->List UInt8
 | _,[]=>[]
 | was,t::l=>numB (zigN (dif64 t was))++timesGo t l
def lvGo:UInt8->Nat->List UInt8->List UInt8
 | x,c,[]=>x::numB c
 | x,c,y::l=>if y=x then lvGo x (c+1) l else(x::numB c)++lvGo y 1 l
def levelsL:List UInt8->List UInt8
 | []=>[]
 | x::l=>lvGo x 1 l
structure Tok where
 lit:UInt8
 len:Nat
 dist:Nat
 deriving DecidableEq
instance:Inhabited Tok:=⟨⟨0,0,0⟩⟩
def alikeN(b:List UInt8):Nat->Nat->Nat->Nat
 | _,_,0=>0
 | f,a,n+1=>if a<b.length/\b[f]?=b[a]? then alikeN b (f+1) (a+1) n+1 else 0
def alikeK(b:List UInt8)(f a:Nat):Nat:=alikeN b f a 257
theorem alikeN_le(b:List UInt8):∀ n f a,alikeN b f a n<=n:=by
 intro n
 induction n with
 | zero=>intro f a;exact Nat.le_refl _
 | succ n ih=>
  intro f a
  have:=ih (f+1) (a+1)
  rw [alikeN]
  split <;> omega
theorem alikeN_room(b:List UInt8):∀ n f a,a<=b.length->a+alikeN b f a n<=b.length:=by
 intro n
 induction n with
 | zero=>intro f a h;exact h
 | succ n ih=>
  intro f a h
  rw [alikeN]
  split
  · rename_i h1;have:=ih (f+1) (a+1) (by omega);omega
  · exact h
theorem alikeN_at(b:List UInt8):∀ n f a,a<=b.length->∀ i,i<alikeN b f a n->b[f+i]?=b[a+i]?:=by
 intro n
 induction n with
 | zero=>intro f a _ i hi;simp [alikeN]at hi
 | succ n ih=>
  intro f a h i hi
  rw [alikeN]at hi
  split at hi
  · rename_i h1
    cases i with
    | zero=>simpa using h1.2
    | succ i=>
     have:=ih (f+1) (a+1) (by omega) i (by omega)
     rw [show f+(i+1)=f+1+i by omega,show a+(i+1)=a+1+i by omega];exact this
  · omega
def trip(b:List UInt8)(p:Nat):List UInt8:=(b.drop p).take 3
theorem alikeN_three(b:List UInt8)(n f a:Nat)(hn:3<=n)(hf:f<a):3<=alikeN b f a n↔(a+3<=b.length/\trip b f=trip b a):=by
 have e:∀ p,p+3<=b.length->trip b p=[b.getD p 0,b.getD (p+1) 0,b.getD (p+2) 0]:=by
  intro p hp
  unfold trip
  rw [List.drop_eq_getElem_cons (by omega),List.take_succ_cons,List.drop_eq_getElem_cons (by omega),List.take_succ_cons,List.drop_eq_getElem_cons (by omega),List.take_succ_cons,List.take_zero]
  simp [List.getD_eq_getElem?_getD,List.getElem?_eq_getElem (show p<b.length by omega),List.getElem?_eq_getElem (show p+1<b.length by omega),List.getElem?_eq_getElem (show p+2<b.length by omega)]
 constructor
 · intro h
   by_cases ha:a<=b.length
   · have h1:=alikeN_room b n f a ha
     refine⟨by omega,?_⟩
     rw [e f (by omega),e a (by omega)]
     have i0:=alikeN_at b n f a ha 0 (by omega)
     have i1:=alikeN_at b n f a ha 1 (by omega)
     have i2:=alikeN_at b n f a ha 2 (by omega)
     simp only [Nat.add_zero]at i0
     simp only [List.getD_eq_getElem?_getD,i0,i1,i2]
   · obtain⟨m,rfl⟩:∃ m,n=m+1:=⟨n - 1,by omega⟩
     rw [alikeN,if_neg (by omega)]at h;omega
 · rintro⟨h1,h2⟩
   rw [e f (by omega),e a (by omega)]at h2
   simp only [List.cons.injEq,and_true]at h2
   have g:∀ p,p<b.length->b[p]?=some (b.getD p 0):=fun p hp=>by rw [List.getD_eq_getElem?_getD,List.getElem?_eq_getElem hp];rfl
   obtain⟨m,rfl⟩:∃ m,n=m+3:=⟨n - 3,by omega⟩
   rw [alikeN, if_pos ⟨by omega, by rw [g _ (by omega), g _ (by omega), h2.1]⟩, alikeN, if_pos ⟨by omega, by rw [g _ (by omega), g _ (by omega), h2.2.1]⟩, alikeN, if_pos ⟨by omega, by
    rw [show f + 1 + 1 = f + 2 by omega, show a + 1 + 1 = a + 2 by omega, g _ (by omega), g _ (by omega), h2.2.2]⟩]
   omega
def stepB(b:List UInt8)(at_:Nat)(s:Nat × Nat)(dist:Nat):Nat × Nat:=if s.1<alikeK b (at_ - dist) at_ then(alikeK b (at_ - dist) at_,dist)else s
def bestTo(b:List UInt8)(at_:Nat):Nat->Nat × Nat
 | 0=>(0,0)
 | d+1=>stepB b at_ (bestTo b at_ d) (d+1)
def bestK(b:List UInt8)(at_:Nat):Nat × Nat:=bestTo b at_ (min 4095 at_)
theorem bestTo_le(b:List UInt8)(a:Nat)(ha:a<=b.length):∀ d,(bestTo b a d).1<=257/\a+(bestTo b a d).1<=b.length/\(bestTo b a d).2<=d/\(0<(bestTo b a d).1->0<(bestTo b a d).2):=by
 intro d
 induction d with
 | zero=>simp [bestTo,ha]
 | succ d ih=>
  rw [bestTo,stepB]
  split
  · refine⟨alikeN_le _ _ _ _,alikeN_room _ _ _ _ ha,Nat.le_refl _,fun _=>by simp⟩
  · exact⟨ih.1,ih.2.1,by omega,ih.2.2.2⟩
theorem bestTo_full(b:List UInt8)(a:Nat)(d e:Nat)(h:d<=e)(hn:(bestTo b a d).1=257):bestTo b a e=bestTo b a d:=by
 induction e with
 | zero=>rw [Nat.le_zero.1 h]
 | succ e ih=>
  by_cases h1:d=e+1
  · rw [h1]
  · rw [bestTo,stepB,ih (by omega),if_neg]
    rw [hn];have:=alikeN_le b 257 (a - (e+1)) a;unfold alikeK;omega
def chainIs(s t:Nat × Nat):Prop:=(3<=s.1->t=s)/\(s.1<3->t=(0,0))
theorem chain_skip(b:List UInt8)(a d e:Nat)(t:Nat × Nat)(hde:d<=e)(h:chainIs (bestTo b a d) t)(hs:∀ k,d<k->k<=e->¬3<=alikeK b (a - k) a):chainIs (bestTo b a e) t:=by
 induction e with
 | zero=>rw [Nat.le_zero.1 hde]at h;exact h
 | succ e ih=>
  by_cases h1:d=e+1
  · rw [<- h1];exact h
  · have h2:=ih (by omega) (fun k a b=>hs k a (by omega))
    have h3:=hs (e+1) (by omega) (Nat.le_refl _)
    rw [bestTo,stepB]
    split
    · rename_i h4
      exact⟨fun h5=>absurd h5 h3,fun _=>h2.2 (by omega)⟩
    · exact h2
theorem chain_step(b:List UInt8)(a d:Nat)(t:Nat × Nat)(h:chainIs (bestTo b a d) t)(hs:3<=alikeK b (a - (d+1)) a):chainIs (bestTo b a (d+1)) (stepB b a t (d+1)):=by
 rw [bestTo]
 unfold stepB
 by_cases h3:3<=(bestTo b a d).1
 · rw [h.1 h3]
   split
   · exact⟨fun _=>rfl,fun h=>by simp at h;omega⟩
   · exact⟨fun _=>rfl,fun h=>by omega⟩
 · rw [h.2 (by omega),if_pos (by omega),if_pos (by simp;omega)]
   exact⟨fun _=>rfl,fun h=>by simp at h;omega⟩
def lastK(b:List UInt8)(key:List UInt8):Nat->Option Nat
 | 0=>none
 | n+1=>if n+3<=b.length/\trip b n=key then some n else lastK b key n
theorem lastK_some(b key:List UInt8)(n p:Nat)(h:lastK b key n=some p):p<n/\p+3<=b.length/\trip b p=key/\∀ q,p<q->q<n->q+3<=b.length->trip b q≠key:=by
 induction n with
 | zero=>cases h
 | succ n ih=>
  rw [lastK]at h
  split at h
  · rename_i h1
    cases h
    exact⟨by omega,h1.1,h1.2,fun q a b=>by omega⟩
  · rename_i h1
    obtain⟨i1,i2,i3,i4⟩:=ih h
    refine⟨by omega,i2,i3,fun q a c d=>?_⟩
    by_cases e:q=n
    · subst e;exact fun k=>h1 ⟨d,k⟩
    · exact i4 q a (by omega) d
theorem lastK_none(b key:List UInt8)(n:Nat)(h:lastK b key n=none):∀ q,q<n->q+3<=b.length->trip b q≠key:=by
 induction n with
 | zero=>intro q hq;omega
 | succ n ih=>
  rw [lastK]at h
  split at h
  · cases h
  · rename_i h1
    intro q a d
    by_cases e:q=n
    · subst e;exact fun k=>h1 ⟨d,k⟩
    · exact ih h q (by omega) d
def prevK(b:List UInt8)(p:Nat):Option Nat:=if p+3<=b.length then lastK b (trip b p) p else none
theorem chain_go(b:List UInt8)(a d p:Nat)(t:Nat × Nat)(ha:a+3<=b.length)(hd:d<=a)(hp:lastK b (trip b a) (a - d)=some p)(h:chainIs (bestTo b a d) t) :
  chainIs (bestTo b a (a - p)) (stepB b a t (a - p))/\p<a - d/\prevK b p=lastK b (trip b a) (a - (a - p)):=by
 obtain⟨i1,i2,i3,i4⟩:=lastK_some _ _ _ _ hp
 have h1 := chain_skip b a d (a - p - 1) t (by omega) h (fun k k1 k2 k3 => by
  have := (alikeN_three b 257 (a - k) a (by omega) (by omega)).1 k3
  exact i4 (a - k) (by omega) (by omega) (by omega) this.2)
 have h2:=chain_step b a (a - p - 1) t h1 ((alikeN_three b 257 _ a (by omega) (by omega)).2 ⟨ha,by rw [show a - (a - p - 1+1)=p by omega];exact i3⟩)
 rw [show a - p - 1+1=a - p by omega]at h2
 refine⟨h2,i1,?_⟩
 unfold prevK
 rw [if_pos i2,i3,show a - (a - p)=p by omega]
theorem chain_done(b:List UInt8)(a d:Nat)(t:Nat × Nat)(hd:d<=min 4095 a)(h:chainIs (bestTo b a d) t)
  (hp:(bestTo b a d).1=257\/∀ q,q<a - d->a - q<=4095->trip b q≠trip b a):chainIs (bestK b a) t:=by
 unfold bestK
 rcases hp with hp | hp
 · rw [bestTo_full b a d _ hd hp];exact h
 · exact chain_skip b a d _ t hd h fun k k1 k2 k3=>hp (a - k) (by omega) (by omega) ((alikeN_three b 257 (a - k) a (by omega) (by omega)).1 k3).2
theorem best_short(b:List UInt8)(a:Nat)(ha:b.length<a+3)(h:a<=b.length):(bestK b a).1<3:=by
 have:=(bestTo_le b a h (min 4095 a)).2.1
 unfold bestK;omega
def findGo(b:List UInt8)(a:Nat):List Tok:=
 if h : a < b.length then
  if h3:3<=(bestK b a).1 then⟨0,(bestK b a).1,(bestK b a).2⟩::findGo b (a+(bestK b a).1)
  else⟨b[a],0,0⟩::findGo b (a+1)
 else []
termination_by b.length - a
def findK(b:List UInt8):List Tok:=findGo b 0
theorem findGo_end(b:List UInt8)(a:Nat)(h:b.length<=a):findGo b a=[]:=by rw [findGo,dif_neg (by omega)]
theorem findGo_match(b:List UInt8)(a:Nat)(h:a<b.length)(h3:3<=(bestK b a).1):findGo b a=⟨0,(bestK b a).1,(bestK b a).2⟩::findGo b (a+(bestK b a).1):=by rw [findGo,dif_pos h,dif_pos h3]
theorem findGo_lit(b:List UInt8)(a:Nat)(h:a<b.length)(h3:¬3<=(bestK b a).1):findGo b a=⟨b[a],0,0⟩::findGo b (a+1):=by rw [findGo,dif_pos h,dif_neg h3]
def mayT(t:Tok):Bool:=if t.len=0 then decide (t.dist=0)else decide (t.lit=0) && decide (3<=t.len) && decide (t.len<=257) && decide (1<=t.dist) && decide (t.dist<=4095)
theorem findGo_may(b:List UInt8)(a:Nat):∀ t∈findGo b a,mayT t=true:=by
 induction a using findGo.induct (b:=b)with
 | case1 a h h3 ih=>
  rw [findGo_match b a h h3]
  intro t ht
  rcases List.mem_cons.1 ht with rfl | ht
  · have:=bestTo_le b a (by omega) (min 4095 a)
    unfold bestK at *
    unfold mayT
    rw [if_neg (by simp;omega)]
    simp only [Bool.and_eq_true,decide_eq_true_eq]
    refine⟨⟨⟨⟨trivial,?_⟩,?_⟩,?_⟩,?_⟩ <;> omega
  · exact ih t ht
 | case2 a h h3 ih=>
  rw [findGo_lit b a h h3]
  intro t ht
  rcases List.mem_cons.1 ht with rfl | ht
  · simp [mayT]
  · exact ih t ht
 | case3 a h=>rw [findGo_end b a (by omega)];intro t ht;cases ht
theorem findGo_len(b:List UInt8)(a:Nat):(findGo b a).length<=b.length - a:=by
 induction a using findGo.induct (b:=b)with
 | case1 a h h3 ih=>rw [findGo_match b a h h3,List.length_cons];omega
 | case2 a h h3 ih=>rw [findGo_lit b a h h3,List.length_cons];omega
 | case3 a h=>rw [findGo_end b a (by omega)];simp
def cntK(lens:List UInt8)(l:Nat):Nat:=lens.countP fun c=>c.toNat == l
theorem cntK_le(lens:List UInt8)(l:Nat):cntK lens l<=lens.length:=List.countP_le_length
theorem cntK_nil(l:Nat):cntK [] l=0:=rfl
theorem cntK_app(a b:List UInt8)(l:Nat):cntK (a++b) l=cntK a l+cntK b l:=by simp [cntK]
theorem cntK_cons(c:UInt8)(b:List UInt8)(l:Nat):cntK (c::b) l=cntK b l+if c.toNat=l then 1 else 0:=by
 simp [cntK,List.countP_cons]
theorem cntK_take(lens:List UInt8)(k l:Nat)(h:k<lens.length):cntK (lens.take (k+1)) l=cntK (lens.take k) l+if lens[k].toNat=l then 1 else 0:=by
 rw [List.take_succ_eq_append_getElem h,cntK_app,cntK_cons,cntK_nil];omega
theorem cntK_take_le(lens:List UInt8)(k l:Nat):cntK (lens.take k) l<=cntK lens l:=by
 conv=>rhs;rw [<- List.take_append_drop k lens]
 rw [cntK_app];omega
def firstK(lens:List UInt8):Nat->Nat
 | 0=>0
 | 1=>0
 | l+2=>2*(firstK lens (l+1)+cntK lens (l+1))
theorem firstK_succ(lens:List UInt8)(l:Nat)(h:1<=l):firstK lens (l+1)=2*(firstK lens l+cntK lens l):=by
 obtain⟨k,rfl⟩:∃ k,l=k+1:=⟨l - 1,by omega⟩
 rfl
theorem firstK_le(lens:List UInt8)(l:Nat):firstK lens l+2*lens.length<=lens.length*2 ^ (l+1):=by
 induction l with
 | zero=>simp [firstK];omega
 | succ l ih=>
  rcases Nat.eq_zero_or_pos l with rfl | hp
  · simp [firstK];omega
  · rw [firstK_succ lens l hp]
    have:=cntK_le lens l
    have e:lens.length*2 ^ (l+1+1)=2*(lens.length*2 ^ (l+1)):=by rw [Nat.pow_succ 2 (l+1)];simp [Nat.mul_comm,Nat.mul_left_comm]
    rw [e];omega
def valK(lens:List UInt8)(l s:Nat):Nat:=firstK lens l+cntK (lens.take s) l
theorem valK_le(lens:List UInt8)(l s:Nat)(hl:l<=15)(hn:lens.length<=300):valK lens l s<=20000000:=by
 have h1:=firstK_le lens l
 have h2:=cntK_take_le lens s l
 have h3:=cntK_le lens l
 have h4:lens.length*2 ^ (l+1)<=300*2 ^ 16:=Nat.mul_le_mul hn (Nat.pow_le_pow_right (by omega) (by omega))
 unfold valK;omega
theorem valK_zero(lens:List UInt8)(l:Nat):valK lens l 0=firstK lens l:=by simp [valK,cntK_nil]
theorem valK_succ(lens:List UInt8)(l s:Nat)(h:s<lens.length):valK lens l (s+1)=valK lens l s+if lens[s].toNat=l then 1 else 0:=by
 unfold valK;rw [cntK_take _ _ _ h];omega
def codesK(lens:List UInt8):List Nat:=lens.mapIdx fun s c=>if c=0 then 0 else valK lens c.toNat s % 65536
theorem codesK_len(lens:List UInt8):(codesK lens).length=lens.length:=by simp [codesK]
theorem codesK_at(lens:List UInt8)(s:Nat)(h:s<lens.length):(codesK lens)[s]'(by rw [codesK_len];exact h)=if lens[s]=0 then 0 else valK lens lens[s].toNat s % 65536:=by simp [codesK]
def kraftK(lens:List UInt8):Nat:=(lens.map fun c=>if c=0 then 0 else 2 ^ (15 - c.toNat)).sum
theorem kraftK_cons(c:UInt8)(l:List UInt8):kraftK (c::l)=(if c=0 then 0 else 2 ^ (15 - c.toNat))+kraftK l:=rfl
theorem kraftK_le(lens:List UInt8):kraftK lens<=lens.length*16384:=by
 induction lens with
 | nil=>simp [kraftK]
 | cons c l ih=>
  rw [kraftK_cons,List.length_cons]
  have:(if c=0 then 0 else 2 ^ (15 - c.toNat))<=16384:=by
   split
   · omega
   · rename_i h
     have h0:c.toNat≠0:=fun e=>h (UInt8.toNat_inj.1 (by simpa using e))
     have:2 ^ (15 - c.toNat)<=2 ^ 14:=Nat.pow_le_pow_right (by omega) (by omega)
     omega
  omega
def sumK(f:Nat->Nat):Nat->Nat
 | 0=>0
 | l+1=>sumK f l+f (l+1)
theorem sumK_add(f g:Nat->Nat)(l:Nat):sumK (fun k=>f k+g k) l=sumK f l+sumK g l:=by
 induction l with
 | zero=>rfl
 | succ l ih=>simp only [sumK,ih];omega
theorem sumK_zero(l:Nat):sumK (fun _=>0) l=0:=by induction l with | zero=>rfl | succ l ih=>simp [sumK,ih]
theorem sumK_one(c v:Nat)(l:Nat):sumK (fun k=>if c=k then v else 0) l=if 1<=c/\c<=l then v else 0:=by
 induction l with
 | zero=>simp [sumK];omega
 | succ l ih=>
  rw [sumK,ih]
  by_cases h1:c=l+1
  · subst h1;rw [if_neg (by omega),if_pos rfl,if_pos (by omega)];omega
  · rw [if_neg h1]
    by_cases h2:1<=c/\c<=l
    · rw [if_pos h2,if_pos (by omega)];omega
    · rw [if_neg h2,if_neg (by omega)]
theorem sumK_congr(f g:Nat->Nat)(l:Nat)(h:∀ k,1<=k->k<=l->f k=g k):sumK f l=sumK g l:=by
 induction l with
 | zero=>rfl
 | succ l ih=>rw [sumK,sumK,ih (fun k a b=>h k a (by omega)),h (l+1) (by omega) (by omega)]
theorem sum_kraft(lens:List UInt8)(h:∀ c∈lens,c.toNat<=15):sumK (fun l=>cntK lens l*2 ^ (15 - l)) 15=kraftK lens:=by
 induction lens with
 | nil=>simp [cntK_nil,kraftK,sumK_zero]
 | cons c lens ih=>
  have hc:=h c (by simp)
  rw [kraftK_cons,<- ih (fun c hc=>h c (by simp [hc]))]
  rw [sumK_congr (fun l => cntK (c :: lens) l * 2 ^ (15 - l)) (fun l => (cntK lens l * 2 ^ (15 - l)) + if c.toNat = l then 2 ^ (15 - c.toNat) else 0) 15 (fun k _ _ => by
   rw [cntK_cons, Nat.add_mul]
   by_cases e : c.toNat = k
   · rw [if_pos e, if_pos e, e]; omega
   · rw [if_neg e, if_neg e]; omega)]
  rw [sumK_add,sumK_one]
  by_cases h0:c=0
  · subst h0;simp
  · have h0':c.toNat≠0:=fun e=>h0 (UInt8.toNat_inj.1 (by simpa using e))
    rw [if_pos (by omega),if_neg h0];omega
def wordsK(lens:List UInt8):Nat:=lens.countP fun c=>c != 0
theorem wordsK_le(lens:List UInt8):wordsK lens<=lens.length:=List.countP_le_length
theorem sum_words(lens:List UInt8)(h:∀ c∈lens,c.toNat<=15):sumK (cntK lens) 15=wordsK lens:=by
 induction lens with
 | nil=>exact sumK_zero 15
 | cons c lens ih=>
  have hc:=h c (by simp)
  rw [sumK_congr (cntK (c::lens)) (fun l=>cntK lens l+if c.toNat=l then 1 else 0) 15 (fun k _ _=>cntK_cons c lens k),sumK_add,sumK_one,ih (fun c hc=>h c (by simp [hc]))]
  unfold wordsK
  rw [List.countP_cons]
  by_cases h0:c=0
  · subst h0;simp
  · have h0':c.toNat≠0:=fun e=>h0 (UInt8.toNat_inj.1 (by simpa using e))
    simp [h0];omega
def okK(lens:List UInt8):Bool:=decide (wordsK lens=0) || decide (kraftK lens=32768) || (decide (wordsK lens=1) && decide (cntK lens 1=1))
theorem first_sum(lens:List UInt8):∀ l,l<=15->(firstK lens l+(if l=0 then 0 else cntK lens l))*2 ^ (15 - l)=sumK (fun k=>cntK lens k*2 ^ (15 - k)) l:=by
 intro l
 induction l with
 | zero=>intro _;simp [firstK,sumK]
 | succ l ih=>
  intro h
  rw [sumK,<- ih (by omega),if_neg (by omega)]
  rcases Nat.eq_zero_or_pos l with rfl | hp
  · simp [firstK]
  · rw [firstK_succ _ _ hp,if_neg (by omega),show 15 - l=(15 - (l+1))+1 by omega,Nat.pow_succ,Nat.add_mul (2*_)]
    simp only [Nat.mul_assoc,Nat.mul_comm,Nat.mul_left_comm]
theorem sumK_mono(f:Nat->Nat)(a b:Nat)(h:a<=b):sumK f a<=sumK f b:=by
 induction b with
 | zero=>rw [Nat.le_zero.1 h];exact Nat.le_refl _
 | succ b ih=>
  by_cases e:a=b+1
  · rw [e];exact Nat.le_refl _
  · rw [sumK];have:=ih (by omega);omega
theorem okK_kraft(lens:List UInt8)(h:okK lens=true):kraftK lens<=32768:=by
 unfold okK at h
 simp only [Bool.or_eq_true,Bool.and_eq_true,decide_eq_true_eq]at h
 rcases h with(h | h) | ⟨h,_⟩
 · have:∀ l:List UInt8,wordsK l=0->kraftK l=0:=by
     intro l
     induction l with
     | nil=>intro _;rfl
     | cons c l ih=>
      intro e
      unfold wordsK at e
      rw [List.countP_cons]at e
      have e1 : c = 0 := by by_cases c0 : c = 0; · exact c0
                            · simp [c0]at e
      rw [kraftK_cons,if_pos e1,ih (by unfold wordsK;omega)]
   rw [this lens h];omega
 · omega
 · have:∀ l:List UInt8,wordsK l<=1->kraftK l<=wordsK l*16384:=by
     intro l
     induction l with
     | nil=>intro _;simp [kraftK]
     | cons c l ih=>
      intro e
      unfold wordsK at e ⊢
      rw [List.countP_cons]at e ⊢
      rw [kraftK_cons]
      have ih':=ih (by unfold wordsK;omega)
      unfold wordsK at ih'
      by_cases c0:c=0
      · simp [c0];omega
      · have h0:c.toNat≠0:=fun e=>c0 (UInt8.toNat_inj.1 (by simpa using e))
        have:2 ^ (15 - c.toNat)<=2 ^ 14:=Nat.pow_le_pow_right (by omega) (by omega)
        simp [c0]at *;omega
   have:=this lens (by omega)
   omega
theorem valK_lt(lens:List UInt8)(hk:okK lens=true)(hl:∀ c∈lens,c.toNat<=15)(s:Nat)(h:s<lens.length)(h0:lens[s]≠0):valK lens lens[s].toNat s<2 ^ lens[s].toNat:=by
 have h1:=okK_kraft lens hk
 have h15:=hl _ (List.getElem_mem h)
 have h0':lens[s].toNat≠0:=fun e=>h0 (UInt8.toNat_inj.1 (by simpa using e))
 have hv:=valK_succ lens lens[s].toNat s h
 rw [if_pos rfl]at hv
 have hc:=cntK_take_le lens (s+1) lens[s].toNat
 have hs:=first_sum lens lens[s].toNat h15
 rw [if_neg h0']at hs
 have hm:=sumK_mono (fun k=>cntK lens k*2 ^ (15 - k)) lens[s].toNat 15 h15
 rw [sum_kraft lens hl,<- hs]at hm
 have h2:valK lens lens[s].toNat (s+1)<=firstK lens lens[s].toNat+cntK lens lens[s].toNat:=by unfold valK;omega
 have h3:(2:Nat) ^ lens[s].toNat*2 ^ (15 - lens[s].toNat)=32768:=by rw [<- Nat.pow_add,show lens[s].toNat+(15 - lens[s].toNat)=15 by omega]
 have hp:=Nat.two_pow_pos (15 - lens[s].toNat)
 have h4:(firstK lens lens[s].toNat+cntK lens lens[s].toNat)*2 ^ (15 - lens[s].toNat)<=2 ^ lens[s].toNat*2 ^ (15 - lens[s].toNat):=by omega
 have h5:=Nat.le_of_mul_le_mul_right h4 hp
 omega
def bitsL(x:Nat):Nat->List UInt8
 | 0=>[]
 | n+1=>UInt8.ofNat (x / 2 ^ n % 2)::bitsL x n
theorem bitsL_len(x n:Nat):(bitsL x n).length=n:=by induction n with | zero=>rfl | succ n ih=>simp [bitsL,ih]
def IsBits(l:List UInt8):Prop:=∀ c∈l,c=0\/c=1
theorem IsBits.app{a b:List UInt8}(h1:IsBits a)(h2:IsBits b):IsBits (a++b):=by
 intro c hc
 rcases List.mem_append.1 hc with h | h
 · exact h1 c h
 · exact h2 c h
def unaryL(n:Nat):List UInt8:=List.replicate n 0++[1]
def bitD(l:List UInt8)(i:Nat):Nat:=(l.getD i 0).toNat
def byteW(l:List UInt8)(q:Nat):Nat:=
 bitD l (8*q)*128+bitD l (8*q+1)*64+bitD l (8*q+2)*32+bitD l (8*q+3)*16+bitD l (8*q+4)*8+bitD l (8*q+5)*4+bitD l (8*q+6)*2+bitD l (8*q+7)
def packW(l:List UInt8):List UInt8:=(List.range ((l.length+7) / 8)).map fun q=>UInt8.ofNat (byteW l q)
theorem packW_len(l:List UInt8):(packW l).length=(l.length+7) / 8:=by simp [packW]
theorem bitD_le{l:List UInt8}(h:IsBits l)(i:Nat):bitD l i<=1:=by
 unfold bitD
 by_cases hi:i<l.length
 · rw [List.getD_eq_getElem?_getD,List.getElem?_eq_getElem hi]
   rcases h _ (List.getElem_mem hi)with e | e <;> simp [e]
 · rw [List.getD_eq_getElem?_getD,List.getElem?_eq_none (by omega)];simp
theorem byteW_lt{l:List UInt8}(h:IsBits l)(q:Nat):byteW l q<256:=by
 unfold byteW
 have h0:=bitD_le h (8*q);have h1:=bitD_le h (8*q+1);have h2:=bitD_le h (8*q+2);have h3:=bitD_le h (8*q+3)
 have h4:=bitD_le h (8*q+4);have h5:=bitD_le h (8*q+5);have h6:=bitD_le h (8*q+6);have h7:=bitD_le h (8*q+7)
 omega
theorem bitD_out(l:List UInt8)(i:Nat)(h:l.length<=i):bitD l i=0:=by
 unfold bitD;rw [List.getD_eq_getElem?_getD,List.getElem?_eq_none h];rfl
theorem bitD_old(l:List UInt8)(x:UInt8)(i:Nat)(h:i<l.length):bitD (l++[x]) i=bitD l i:=by
 unfold bitD;rw [List.getD_eq_getElem?_getD,List.getD_eq_getElem?_getD,List.getElem?_append_left h]
theorem bitD_new(l:List UInt8)(x:UInt8):bitD (l++[x]) l.length=x.toNat:=by
 unfold bitD;rw [List.getD_eq_getElem?_getD,List.getElem?_append_right (Nat.le_refl _)];simp
theorem bitD_ne(l:List UInt8)(x:UInt8)(i:Nat)(h:i≠l.length):bitD (l++[x]) i=bitD l i:=by
 by_cases hi:i<l.length
 · exact bitD_old l x i hi
 · rw [bitD_out (l++[x]) i (by simp;omega),bitD_out l i (by omega)]
theorem byteW_other(l:List UInt8)(x:UInt8)(q:Nat)(h:q≠l.length / 8):byteW (l++[x]) q=byteW l q:=by
 unfold byteW
 rw [bitD_ne l x _ (by omega),bitD_ne l x _ (by omega),bitD_ne l x _ (by omega),bitD_ne l x _ (by omega),bitD_ne l x _ (by omega),bitD_ne l x _ (by omega),bitD_ne l x _ (by omega),bitD_ne l x _ (by omega)]
theorem byteW_new(l:List UInt8)(x:UInt8):byteW (l++[x]) (l.length / 8)=byteW l (l.length / 8)+x.toNat*2 ^ (7 - l.length % 8):=by
 obtain⟨q,r,hr,hn⟩:∃ q r,r<8/\l.length=8*q+r:=⟨l.length / 8,l.length % 8,by omega,by omega⟩
 have hq:l.length / 8=q:=by omega
 have hm:l.length % 8=r:=by omega
 rw [hq,hm]
 have hnew:=bitD_new l x
 have hout:=bitD_out l l.length (Nat.le_refl _)
 rw [hn]at hnew hout
 have hne:=fun i (h:i≠8*q+r)=>bitD_ne l x i (by rw [hn];exact h)
 unfold byteW
 have cases8:r=0\/r=1\/r=2\/r=3\/r=4\/r=5\/r=6\/r=7:=by omega
 rcases cases8 with rfl | rfl | rfl | rfl | rfl | rfl | rfl | rfl <;>
  (try simp only [Nat.add_zero] at hnew hout hne
   try rw [hne (8 * q) (by omega)]
   try rw [hne (8 * q + 1) (by omega)]
   try rw [hne (8 * q + 2) (by omega)]
   try rw [hne (8 * q + 3) (by omega)]
   try rw [hne (8 * q + 4) (by omega)]
   try rw [hne (8 * q + 5) (by omega)]
   try rw [hne (8 * q + 6) (by omega)]
   try rw [hne (8 * q + 7) (by omega)]
   rw [hnew, hout]
   simp only [Nat.reduceSub, Nat.reducePow]
   omega)
theorem byteW_low{l:List UInt8}(q s:Nat)(hs:s<8)(h:l.length<=8*q+(7 - s)):byteW l q / 2 ^ s % 2=0:=by
 unfold byteW
 have cases8:s=0\/s=1\/s=2\/s=3\/s=4\/s=5\/s=6\/s=7:=by omega
 have hz:=fun i (h2:8*q+(7 - s)<=i)=>bitD_out l i (Nat.le_trans h h2)
 rcases cases8 with rfl | rfl | rfl | rfl | rfl | rfl | rfl | rfl <;>
  (simp only [Nat.reducePow]
   try rw [hz (8 * q) (by omega)]
   try rw [hz (8 * q + 1) (by omega)]
   try rw [hz (8 * q + 2) (by omega)]
   try rw [hz (8 * q + 3) (by omega)]
   try rw [hz (8 * q + 4) (by omega)]
   try rw [hz (8 * q + 5) (by omega)]
   try rw [hz (8 * q + 6) (by omega)]
   try rw [hz (8 * q + 7) (by omega)]
   all_goals omega)
theorem or_all8:allB 256 (fun y=>allB 8 fun s=>!(y / 2 ^ s % 2 == 0) || (y ||| 2 ^ s) == y+2 ^ s)=true:=by decide +kernel
theorem or_bit(y s:Nat)(hy:y<256)(hs:s<8)(h:y / 2 ^ s % 2=0):y ||| 2 ^ s=y+2 ^ s:=by
 have:=allB_out 8 _ (allB_out 256 _ or_all8 y hy) s hs
 simpa [h] using this
theorem packW_snoc(l:List UInt8)(x:UInt8)(hl:IsBits l)(hx:x=0\/x=1) :
  packW (l++[x])=((if l.length % 8=0 then packW l++[0]else packW l).set (l.length / 8) (UInt8.ofNat (byteW l (l.length / 8) ||| x.toNat*2 ^ (7 - l.length % 8)))):=by
 have hor:byteW l (l.length / 8) ||| x.toNat*2 ^ (7 - l.length % 8)=byteW (l++[x]) (l.length / 8):=by
  rw [byteW_new]
  rcases hx with rfl | rfl
  · simp
  · have e1:UInt8.toNat 1=1:=rfl
    rw [e1,Nat.one_mul]
    exact or_bit _ _ (byteW_lt hl _) (by omega) (byteW_low _ _ (by omega) (by omega))
 rw [hor]
 apply List.ext_getElem
 · rw [packW_len,List.length_set,List.length_append,List.length_singleton]
   split
   · rw [List.length_append,packW_len];simp;omega
   · rw [packW_len];omega
 · intro q h1 h2
   have hq:q<(l.length+1+7) / 8:=by rw [packW_len]at h1;simpa using h1
   rw [List.getElem_set]
   by_cases e:l.length / 8=q
   · rw [if_pos e]
     simp [packW,e]
   · rw [if_neg e]
     have hq2:q<(l.length+7) / 8:=by omega
     have e3:(packW (l++[x]))[q]=UInt8.ofNat (byteW l q):=by
      simp [packW,byteW_other l x q (fun h=>e h.symm)]
     have e4:∀ h,(packW l)[q]'h=UInt8.ofNat (byteW l q):=fun h=>by simp [packW]
     rw [e3]
     by_cases h0:l.length % 8=0
     · simp only [if_pos h0]
       rw [List.getElem_append_left (by rw [packW_len];exact hq2)]
       exact(e4 _).symm
     · simp only [if_neg h0]
       exact(e4 _).symm
theorem packW_at(l:List UInt8)(q:Nat)(h:q<(packW l).length):(packW l)[q]=UInt8.ofNat (byteW l q):=by simp [packW]
theorem byteW_zero(l:List UInt8)(q:Nat)(h:l.length<=8*q):byteW l q=0:=by
 unfold byteW
 rw [bitD_out l _ (by omega),bitD_out l _ (by omega),bitD_out l _ (by omega),bitD_out l _ (by omega),bitD_out l _ (by omega),bitD_out l _ (by omega),bitD_out l _ (by omega),bitD_out l _ (by omega)]
end Go.Fk
