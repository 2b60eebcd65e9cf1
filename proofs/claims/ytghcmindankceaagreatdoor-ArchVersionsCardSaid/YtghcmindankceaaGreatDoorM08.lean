/- Parts of the proof of ArchVersions: SpecS4 SpecL SpecL2 SpecC SpecT SpecT2 SpecY2 SpecX SpecLe SpecJ SpecJ2 SpecJ9 Spec28b. -/
import Derived.Test.YtghcmindankceaaGreatDoorM07
import Derived.Test.YtghcmindankceaaGreatDoorM06
set_option linter.unusedVariables false
set_option linter.unusedSectionVars false
set_option linter.unusedSimpArgs false
set_option maxHeartbeats 8000000
namespace Go.Fk
theorem blk_iff(c t i:Nat)(hc:0<c):i / c=t↔c*t<=i/\i<c*t+c:=by
 constructor
 · intro h
   subst h
   have h1:=Nat.div_add_mod i c
   have h2:=Nat.mod_lt i hc
   omega
 · rintro⟨h1,h2⟩
   refine Nat.le_antisymm ?_ ?_
   · refine Nat.le_of_lt_succ ((Nat.div_lt_iff_lt_mul hc).2 ?_)
     rw [Nat.mul_comm,Nat.mul_succ];omega
   · rw [Nat.le_div_iff_mul_le hc,Nat.mul_comm];exact h1
structure BlkF (key f0 f:Nat->Nat) (c n lim:Nat):Prop where
 rear:RearF f0 f 0 n
 loc:∀ p,p<n->∃ q,q<n/\q / c=p / c/\f p=f0 q
 srt:∀ i j,i<j->j<n->j<lim->i / c=j / c->ltK key (f i) (f j)
theorem BlkF.start(key f0:Nat->Nat)(c n:Nat):BlkF key f0 f0 c n 0:=⟨RearF.refl _ _ _,fun p h=>⟨p,h,rfl,rfl⟩,fun i j _ _ h _=>by omega⟩
theorem BlkF.double{key f0 f:Nat->Nat}{c n:Nat}(h:BlkF key f0 f c n n):BlkF key f0 f (2*c) n 0:=
 ⟨h.rear, fun p hp => by
  obtain ⟨q, h1, h2, h3⟩ := h.loc p hp
  exact ⟨q, h1, by rw [Nat.mul_comm 2 c, ← Nat.div_div_eq_div_mul, ← Nat.div_div_eq_div_mul, h2], h3⟩, fun i j _ _ h _ => by omega⟩
theorem BlkF.step{key f0 g g' h:Nat->Nat}{c n t b:Nat}(hc:0<c)(hb:BlkF key f0 g c n (c*t))(hh:∀ p,c*t<=p->g p=h p)(hr:RearF g g' (c*t) b)(hs:SrtF key g' (c*t) b)(htb:c*t<=b)(hbn:b<=n)(hbc:b<=c*t+c)(hb2:b=c*t+c\/b=n) :
  BlkF key f0 g' c n b/\∀ p,b<=p->g' p=h p:=by
 refine⟨⟨hb.rear.trans (hr.widen (Nat.zero_le _) htb hbn),fun p hp=>?_,fun i j hij hj hl he=>?_⟩,fun p hp=>?_⟩
 · by_cases c1:c*t<=p/\p<b
   · obtain⟨q,h1,h2,h3⟩:=hr.mem p c1.1 c1.2
     obtain⟨r,r1,r2,r3⟩:=hb.loc q (by omega)
     refine⟨r,r1,?_,by rw [h3,r3]⟩
     rw [r2,(blk_iff c t q hc).2 ⟨h1,by omega⟩,(blk_iff c t p hc).2 ⟨c1.1,by omega⟩]
   · rw [hr.1 p (by omega)];exact hb.loc p hp
 · by_cases c1:j<c*t
   · rw [hr.1 i (by omega),hr.1 j (by omega)];exact hb.srt i j hij hj c1 he
   · have hjt:j / c=t:=(blk_iff c t j hc).2 ⟨by omega,by omega⟩
     have hit:=(blk_iff c t i hc).1 (he.trans hjt)
     exact hs i j hit.1 hij hl
 · rw [hr.1 p (by omega)];exact hh p (by omega)
theorem BlkF.parts{key f0 f:Nat->Nat}{c n t b:Nat}(hc:0<c)(hb:BlkF key f0 f c n n)(hup:∀ p q,p<q->q<n->f0 p<f0 q)(h1:2*c*t+c<=b)(hbn:b<=n)(hbc:b<=2*c*t+2*c) :
  AheadF f (2*c*t) (2*c*t+c) b/\SrtF key f (2*c*t) (2*c*t+c)/\SrtF key f (2*c*t+c) b:=by
 have e1:2*c*t=c*(2*t):=by simp [Nat.mul_comm,Nat.mul_left_comm]
 have e2:2*c*t+c=c*(2*t+1):=by rw [e1,Nat.mul_succ]
 refine⟨fun p q a1 a2 a3 a4=>?_,fun i j a1 a2 a3=>?_,fun i j a1 a2 a3=>?_⟩
 · obtain⟨p',b1,b2,b3⟩:=hb.loc p (by omega)
   obtain⟨q',d1,d2,d3⟩:=hb.loc q (by omega)
   have k1:p / c=2*t:=(blk_iff c (2*t) p hc).2 ⟨by omega,by omega⟩
   have k2:q / c=2*t+1:=(blk_iff c (2*t+1) q hc).2 ⟨by omega,by omega⟩
   have m1:=(blk_iff c (2*t) p' hc).1 (b2.trans k1)
   have m2:=(blk_iff c (2*t+1) q' hc).1 (d2.trans k2)
   rw [b3,d3]
   exact hup p' q' (by omega) d1
 · have k1:i / c=2*t:=(blk_iff c (2*t) i hc).2 ⟨by omega,by omega⟩
   have k2:j / c=2*t:=(blk_iff c (2*t) j hc).2 ⟨by omega,by omega⟩
   exact hb.srt i j a2 (by omega) (by omega) (k1.trans k2.symm)
 · have k1:i / c=2*t+1:=(blk_iff c (2*t+1) i hc).2 ⟨by omega,by omega⟩
   have k2:j / c=2*t+1:=(blk_iff c (2*t+1) j hc).2 ⟨by omega,by omega⟩
   exact hb.srt i j a2 (by omega) (by omega) (k1.trans k2.symm)
theorem BlkF.rest{key f0 f:Nat->Nat}{c n t:Nat}(hc:0<c)(hb:BlkF key f0 f c n n)(hn:n<=2*c*t+c):SrtF key f (2*c*t) n:=fun i j a1 a2 a3=>by
 have e1:2*c*t=c*(2*t):=by simp [Nat.mul_comm,Nat.mul_left_comm]
 have k1:i / c=2*t:=(blk_iff c (2*t) i hc).2 ⟨by omega,by omega⟩
 have k2:j / c=2*t:=(blk_iff c (2*t) j hc).2 ⟨by omega,by omega⟩
 exact hb.srt i j a2 a3 a3 (k1.trans k2.symm)
theorem BlkF.whole{key f0 f:Nat->Nat}{c n:Nat}(hb:BlkF key f0 f c n n)(hn:n<=c):SrtF key f 0 n:=fun i j _ a2 a3=>
 hb.srt i j a2 a3 a3 (by rw [Nat.div_eq_of_lt (by omega),Nat.div_eq_of_lt (by omega)])
theorem BlkF.okay{key f0 f:Nat->Nat}{c n lim:Nat}(hb:BlkF key f0 f c n lim){ok:Nat->Prop}(hok:∀ p,p<n->ok (f0 p)):∀ p,p<n->ok (f p):=fun p hp=>by
 obtain⟨q,h1,_,h3⟩:=hb.loc p hp
 rw [h3];exact hok q h1
structure It where
 w:UInt64
 leaf:Bool
 syms:List Nat
instance:Inhabited It:=⟨⟨0,false,[]⟩⟩
def pairsI:List It->List It
 | a::b::l=>⟨a.w+b.w,false,a.syms++b.syms⟩::pairsI l
 | _=>[]
def mergeI:List It->List It->List It
 | [],ks=>ks
 | l::ls,[]=>l::ls
 | l::ls,k::ks=>if l.w<=k.w then l::mergeI ls (k::ks)else k::mergeI (l::ls) ks
termination_by a b=>a.length+b.length
theorem mergeI_nil(a:List It):mergeI a []=a:=by cases a <;> simp [mergeI]
theorem nil_mergeI(a:List It):mergeI [] a=a:=by simp [mergeI]
theorem mergeI_len:∀ a b:List It,(mergeI a b).length=a.length+b.length:=by
 intro a b
 induction a,b using mergeI.induct with
 | case1 ks=>simp [mergeI]
 | case2 l ls=>simp [mergeI]
 | case3 l ls k ks h ih=>rw [mergeI,if_pos h,List.length_cons,ih];simp;omega
 | case4 l ls k ks h ih=>rw [mergeI,if_neg h,List.length_cons,ih];simp;omega
theorem pairsI_len:∀ l:List It,(pairsI l).length=l.length / 2
 | []=>rfl
 | [_]=>by simp [pairsI]
 | a::b::l=>by rw [pairsI,List.length_cons,pairsI_len l];simp only [List.length_cons];omega
def rowI(lv:List It):Nat->List It
 | 0=>lv
 | r+1=>mergeI lv (pairsI (rowI lv r))
theorem rowI_len(lv:List It)(r:Nat):(rowI lv r).length<=2*lv.length:=by
 induction r with
 | zero=>simp [rowI];omega
 | succ r ih=>rw [rowI,mergeI_len,pairsI_len];omega
theorem rowI_long(lv:List It):∀ r,2*lv.length<=(rowI lv r).length+(lv.length+2 ^ r - 1) / 2 ^ r:=by
 intro r
 induction r with
 | zero=>simp [rowI];omega
 | succ r ih=>
  rw [rowI,mergeI_len,pairsI_len]
  have h:(lv.length+2 ^ (r+1) - 1) / 2 ^ (r+1)=((lv.length+2 ^ r - 1) / 2 ^ r+1) / 2:=by
   rw [Nat.pow_succ,<- Nat.div_div_eq_div_mul]
   have hp:=Nat.two_pow_pos r
   have e:lv.length+2 ^ r*2 - 1=(lv.length+2 ^ r - 1)+2 ^ r*1:=by omega
   rw [e,Nat.add_mul_div_left _ _ hp]
  rw [h];omega
theorem rowI_enough(lv:List It)(r:Nat)(h:lv.length<=2*2 ^ r):2*lv.length - 2<=(rowI lv r).length:=by
 have h1:=rowI_long lv r
 have hp:=Nat.two_pow_pos r
 have h2:(lv.length+2 ^ r - 1) / 2 ^ r<=2:=by
  refine Nat.le_of_lt_succ ((Nat.div_lt_iff_lt_mul hp).2 ?_)
  omega
 omega
def leavesN(l:List It):Nat:=(l.filter (·.leaf)).length
theorem leavesN_le(l:List It):leavesN l<=l.length:=List.length_filter_le _ _
theorem merge_take(ls:List It)(hl:∀ x∈ls,x.leaf=true)(ks:List It)(hk:∀ x∈ks,x.leaf=false) :
  ∀ t, t ≤ (mergeI ls ks).length → ∃ n m, n + m = t ∧ n ≤ ls.length ∧ m ≤ ks.length ∧ leavesN ((mergeI ls ks).take t) = n ∧
   ((mergeI ls ks).take t).filter (·.leaf)=ls.take n/\((mergeI ls ks).take t).filter (fun x=>!x.leaf)=ks.take m:=by
 induction ls,ks using mergeI.induct with
 | case1 ks=>
  intro t ht
  rw [nil_mergeI]at *
  have e1:(ks.take t).filter (·.leaf)=[]:=List.filter_eq_nil_iff.2 fun x hx=>by simp [hk x (List.mem_of_mem_take hx)]
  have e2:(ks.take t).filter (fun x=>!x.leaf)=ks.take t:=List.filter_eq_self.2 fun x hx=>by simp [hk x (List.mem_of_mem_take hx)]
  exact⟨0,t,by omega,by simp,ht,by rw [leavesN,e1];rfl,by rw [e1];simp,e2⟩
 | case2 l ls=>
  intro t ht
  rw [mergeI_nil]at *
  have e1:((l::ls).take t).filter (·.leaf)=(l::ls).take t:=List.filter_eq_self.2 fun x hx=>hl x (List.mem_of_mem_take hx)
  have e2:((l::ls).take t).filter (fun x=>!x.leaf)=[]:=List.filter_eq_nil_iff.2 fun x hx=>by simp [hl x (List.mem_of_mem_take hx)]
  exact⟨t,0,by omega,ht,by simp,by rw [leavesN,e1,List.length_take];omega,e1,by rw [e2];simp⟩
 | case3 l ls k ks h ih=>
  intro t ht
  rw [mergeI,if_pos h]at *
  cases t with
  | zero=>exact⟨0,0,rfl,by simp,by simp,by simp [leavesN],by simp,by simp⟩
  | succ t=>
   obtain⟨n,m,h1,h2,h3,h4,h5,h6⟩:=ih (fun x hx=>hl x (by simp [hx])) hk t (by simpa using ht)
   have e:=hl l (by simp)
   refine⟨n+1,m,by omega,by simpa using h2,h3,?_,?_,?_⟩
   · rw [leavesN,List.take_succ_cons,List.filter_cons_of_pos (by exact e),List.length_cons];exact congrArg (·+1) h4
   · rw [List.take_succ_cons,List.filter_cons_of_pos (by exact e),h5,List.take_succ_cons]
   · rw [List.take_succ_cons,List.filter_cons_of_neg (by simp [e]),h6]
 | case4 l ls k ks h ih=>
  intro t ht
  rw [mergeI,if_neg h]at *
  cases t with
  | zero=>exact⟨0,0,rfl,by simp,by simp,by simp [leavesN],by simp,by simp⟩
  | succ t=>
   obtain⟨n,m,h1,h2,h3,h4,h5,h6⟩:=ih hl (fun x hx=>hk x (by simp [hx])) t (by simpa using ht)
   have e:=hk k (by simp)
   refine⟨n,m+1,by omega,h2,by simpa using h3,?_,?_,?_⟩
   · rw [leavesN,List.take_succ_cons,List.filter_cons_of_neg (by simp [e])];exact h4
   · rw [List.take_succ_cons,List.filter_cons_of_neg (by simp [e]),h5]
   · rw [List.take_succ_cons,List.filter_cons_of_pos (by simp [e]),h6,List.take_succ_cons]
theorem pairsI_leaf:∀ (l:List It),∀ x∈pairsI l,x.leaf=false
 | [],x,h=>by simp [pairsI]at h
 | [_],x,h=>by simp [pairsI]at h
 | a::b::l,x,h=>by
  rw [pairsI]at h
  rcases List.mem_cons.1 h with rfl | h
  · rfl
  · exact pairsI_leaf l x h
def symsI(l:List It):List Nat:=(l.map (·.syms)).flatten
theorem symsI_cons(x:It)(l:List It):symsI (x::l)=x.syms++symsI l:=rfl
theorem symsI_app(l m:List It):symsI (l++m)=symsI l++symsI m:=by simp [symsI]
theorem pairsI_take:∀ (l:List It) (m:Nat),m<=l.length / 2->symsI ((pairsI l).take m)=symsI (l.take (2*m))
 | [],m,h=>by simp at h;subst h;rfl
 | [_],m,h=>by simp at h;subst h;rfl
 | a::b::l,0,h=>by simp
 | a::b::l,m+1,h=>by
  rw [pairsI,List.take_succ_cons,symsI_cons,pairsI_take l m (by simp at h;omega),show 2*(m+1)=2*m+2 by omega,List.take_succ_cons,List.take_succ_cons,symsI_cons,symsI_cons,List.append_assoc]
theorem count_parts(s:Nat)(l:List It):(symsI l).count s=(symsI (l.filter (·.leaf))).count s+(symsI (l.filter (fun x=>!x.leaf))).count s:=by
 induction l with
 | nil=>rfl
 | cons x l ih=>
  rw [symsI_cons,List.count_append,ih]
  by_cases h:x.leaf=true
  · rw [List.filter_cons_of_pos (p:=fun x:It=>x.leaf) h,List.filter_cons_of_neg (by simp [h]),symsI_cons,List.count_append];omega
  · rw [List.filter_cons_of_neg (p:=fun x:It=>x.leaf) h,List.filter_cons_of_pos (by simp [h]),symsI_cons,List.count_append];omega
def downI(lv:List It):Nat->Nat->Nat->Nat
 | 0,t,s=>(symsI (lv.take (leavesN ((rowI lv 0).take t)))).count s
 | r+1,t,s=>(symsI (lv.take (leavesN ((rowI lv (r+1)).take t)))).count s+downI lv r (2*(t - leavesN ((rowI lv (r+1)).take t))) s
theorem down_eq(lv:List It)(hl:∀ x∈lv,x.leaf=true)(s:Nat):∀ r t,t<=(rowI lv r).length->(symsI ((rowI lv r).take t)).count s=downI lv r t s:=by
  intro r
  induction r with
  | zero=>
    intro t ht
    have e1:(lv.take t).filter (·.leaf)=lv.take t:=List.filter_eq_self.2 fun x hx=>hl x (List.mem_of_mem_take hx)
    have ht':t<=lv.length:=ht
    show(symsI (lv.take t)).count s=(symsI (lv.take (leavesN (lv.take t)))).count s
    rw [leavesN,e1,List.length_take,Nat.min_eq_left ht']
  | succ r ih=>
    intro t ht
    obtain⟨n,m,h1,h2,h3,h4,h5,h6⟩:=merge_take lv hl (pairsI (rowI lv r)) (pairsI_leaf _) t ht
    rw [pairsI_len]at h3
    show _=(symsI (lv.take (leavesN ((mergeI lv (pairsI (rowI lv r))).take t)))).count s+downI lv r (2*(t - leavesN ((mergeI lv (pairsI (rowI lv r))).take t))) s
    rw [h4,count_parts]
    show(symsI (((mergeI lv (pairsI (rowI lv r))).take t).filter (·.leaf))).count s+(symsI (((mergeI lv (pairsI (rowI lv r))).take t).filter (fun x=>!x.leaf))).count s=_
    rw [h5,h6,pairsI_take _ _ h3,show t - n=m by omega,ih _ (by omega)]
theorem down_room(lv:List It)(hl:∀ x∈lv,x.leaf=true)(r t:Nat)(ht:t<=(rowI lv (r+1)).length):leavesN ((rowI lv (r+1)).take t)<=t/\leavesN ((rowI lv (r+1)).take t)<=lv.length/\2*(t - leavesN ((rowI lv (r+1)).take t))<=(rowI lv r).length:=by
 obtain⟨n,m,h1,h2,h3,h4,h5,h6⟩:=merge_take lv hl (pairsI (rowI lv r)) (pairsI_leaf _) t ht
 rw [pairsI_len]at h3
 show leavesN ((mergeI lv (pairsI (rowI lv r))).take t)<=t/\leavesN ((mergeI lv (pairsI (rowI lv r))).take t)<=lv.length/\2*(t - leavesN ((mergeI lv (pairsI (rowI lv r))).take t))<=_
 rw [h4];omega
def dR(lv:List It):Nat->Nat->Nat->Nat
 | 0,_,_=>0
 | q+1,t,s=>(symsI (lv.take (leavesN ((rowI lv q).take t)))).count s+dR lv q (2*(t - leavesN ((rowI lv q).take t))) s
theorem dR_down(lv:List It)(s:Nat):∀ r t,dR lv (r+1) t s=downI lv r t s:=by
 intro r
 induction r with
 | zero=>intro t;rw [dR,dR,downI];rfl
 | succ r ih=>intro t;rw [dR,ih,downI]
theorem dR_all(lv:List It)(hl:∀ x∈lv,x.leaf=true)(r t s:Nat)(h:t<=(rowI lv r).length):dR lv (r+1) t s=(symsI ((rowI lv r).take t)).count s:=by
 rw [dR_down,<- down_eq lv hl s r t h]
theorem leavesN_snoc(l:List It)(k:Nat)(h:k<l.length):leavesN (l.take (k+1))=leavesN (l.take k)+if l[k].leaf then 1 else 0:=by
 unfold leavesN
 rw [List.take_succ_eq_append_getElem h,List.filter_append,List.length_append]
 by_cases c:l[k].leaf=true
 · rw [List.filter_cons_of_pos (p:=fun x:It=>x.leaf) c,if_pos c];rfl
 · rw [List.filter_cons_of_neg (p:=fun x:It=>x.leaf) c,if_neg c];rfl
theorem symsI_snoc(l:List It)(k:Nat)(h:k<l.length)(s:Nat)(hs:l[k].syms=[s]):symsI (l.take (k+1))=symsI (l.take k)++[s]:=by
 rw [List.take_succ_eq_append_getElem h,symsI_app]
 show _++(l[k].syms++[])=_
 rw [hs];rfl
theorem leaves_room(lv:List It)(hl:∀ x∈lv,x.leaf=true)(q t:Nat)(h:t<=(rowI lv q).length):leavesN ((rowI lv q).take t)<=t/\leavesN ((rowI lv q).take t)<=lv.length/\(0<q->2*(t - leavesN ((rowI lv q).take t))<=(rowI lv (q - 1)).length):=by
 cases q with
 | zero=>
  have h1:=leavesN_le (lv.take t)
  rw [List.length_take]at h1
  refine⟨?_,?_,fun h=>by omega⟩
  · show leavesN (lv.take t)<=t;omega
  · show leavesN (lv.take t)<=lv.length;omega
 | succ r=>
  obtain⟨h1,h2,h3⟩:=down_room lv hl r t h
  exact⟨h1,h2,fun _=>h3⟩
theorem leavesN_mono(l:List It)(j t:Nat)(h:j<=t):leavesN (l.take j)<=leavesN (l.take t):=by
 unfold leavesN
 have:l.take j=(l.take t).take j:=by rw [List.take_take,Nat.min_eq_left h]
 rw [this]
 exact List.Sublist.length_le ((List.take_sublist _ _).filter _)
def bitU(x:Nat):Nat:=if x % 2=1 then(x / 2) ^^^ 3988292384 else x / 2
def byteU(x c:Nat):Nat:=bitU (bitU (bitU (bitU (bitU (bitU (bitU (bitU (x ^^^ c))))))))
def crcGo(x:Nat)(l:List UInt8):Nat:=l.foldl (fun x c=>byteU x c.toNat) x
def sumU(l:List UInt8):Nat:=4294967295 - crcGo 4294967295 l
def tabU(i:Nat):Nat:=bitU (bitU (bitU (bitU i)))
theorem bitU_xor(a b:Nat):bitU (a ^^^ b)=bitU a ^^^ bitU b:=by
 have h:=bit_xor a b 0
 simp only [Nat.pow_zero,Nat.div_one]at h
 unfold bitU
 rw [Nat.xor_div_two]
 by_cases h1:a % 2=1 <;> by_cases h2:b % 2=1
 · rw [if_neg (by rw [h];simp [h1,h2]),if_pos h1,if_pos h2,xor_cross,Nat.xor_self,Nat.xor_zero]
 · rw [if_pos (by rw [h];simp [h1,h2]),if_pos h1,if_neg h2,Nat.xor_assoc,Nat.xor_assoc,Nat.xor_comm (b / 2)]
 · rw [if_pos (by rw [h];simp [h1,h2]),if_neg h1,if_pos h2,Nat.xor_assoc]
 · rw [if_neg (by rw [h];simp [h1,h2]),if_neg h1,if_neg h2]
theorem bitU_lt(x:Nat)(h:x<4294967296):bitU x<4294967296:=by
 unfold bitU
 have h1:x / 2<2 ^ 32:=by omega
 split
 · exact Nat.xor_lt_two_pow h1 (by decide)
 · omega
theorem split16(x:Nat):x=(x / 16*16) ^^^ (x % 16):=by
 apply Nat.eq_of_testBit_eq
 intro j
 rw [Nat.testBit_xor,show(16:Nat)=2 ^ 4 from rfl,Nat.testBit_mul_two_pow,Nat.testBit_mod_two_pow,Nat.testBit_div_two_pow]
 by_cases h:4<=j
 · rw [show j - 4+4=j by omega];simp [h];rw [decide_eq_false (by omega:¬j<4)];simp
 · simp [h];omega
theorem tab_step(x:Nat):bitU (bitU (bitU (bitU x)))=(x / 16) ^^^ tabU (x % 16):=by
 have e:bitU (bitU (bitU (bitU x)))=bitU (bitU (bitU (bitU ((x / 16*16) ^^^ (x % 16))))):=by rw [<- split16]
 rw [e,bitU_xor,bitU_xor,bitU_xor,bitU_xor]
 have h:∀ y,bitU (2*y)=y:=fun y=>by unfold bitU;rw [if_neg (by omega)];omega
 rw [show x / 16*16=2*(2*(2*(2*(x / 16)))) by omega,h,h,h,h]
 rfl
theorem byte_nib(x c:Nat):byteU x c=((x ^^^ c) / 16 ^^^ tabU ((x ^^^ c) % 16)) / 16 ^^^ tabU (((x ^^^ c) / 16 ^^^ tabU ((x ^^^ c) % 16)) % 16):=by
  unfold byteU
  rw [tab_step (x ^^^ c),tab_step]
theorem tabU_lt(i:Nat)(h:i<16):tabU i<4294967296:=bitU_lt _ (bitU_lt _ (bitU_lt _ (bitU_lt _ (by omega))))
theorem byteU_lt(x c:Nat)(hx:x<4294967296)(hc:c<256):byteU x c<4294967296:=by
 have:x ^^^ c<2 ^ 32:=Nat.xor_lt_two_pow hx (by omega)
 exact bitU_lt _ (bitU_lt _ (bitU_lt _ (bitU_lt _ (bitU_lt _ (bitU_lt _ (bitU_lt _ (bitU_lt _ this)))))))
theorem crcGo_lt(l:List UInt8):∀ x,x<4294967296->crcGo x l<4294967296:=by
 induction l with
 | nil=>intro x h;exact h
 | cons c l ih=>intro x h;exact ih _ (byteU_lt x _ h c.toNat_lt)
theorem crcGo_snoc(x:Nat)(l:List UInt8)(k:Nat)(h:k<l.length):crcGo x (l.take (k+1))=byteU (crcGo x (l.take k)) (l[k]).toNat:=by
 unfold crcGo
 rw [List.take_succ_eq_append_getElem h,List.foldl_append];rfl
theorem crcGo_app(x:Nat)(a b:List UInt8):crcGo x (a++b)=crcGo (crcGo x a) b:=by unfold crcGo;rw [List.foldl_append]
def putB(l:List UInt8):List UInt8:=l++[UInt8.ofNat (sumU l % 256),UInt8.ofNat (sumU l / 256 % 256),UInt8.ofNat (sumU l / 65536 % 256),UInt8.ofNat (sumU l / 16777216 % 256)]
theorem sumU_lt(l:List UInt8):sumU l<4294967296:=by unfold sumU;omega
def cutP(l:List UInt8)(at_ n:Nat):List UInt8:=(List.range n).map fun i=>l.getD (at_+i) 0
def partsS(l:List UInt8)(c a k:Nat):List (List UInt8):=(List.range k).map fun i=>cutP l (a+i*c) c
def putsL(ls:List (List UInt8)):List UInt8:=(ls.map putB).flatten
def padL(l:List UInt8)(n:Nat):List UInt8:=l++(List.replicate n 0).drop l.length
def toksK(a b:List UInt8)(l:List Tok):List UInt8:=l.flatMap (tokK a b)
def allK(a b:List UInt8)(l:List Tok):List UInt8:=((wrK a++wrK b)++toksK a b l)++ptK a 256
theorem toksK_snoc(a b:List UInt8)(l:List Tok)(t:Tok):toksK a b (l++[t])=toksK a b l++tokK a b t:=by simp [toksK]
theorem wrK_len(a:List UInt8):(wrK a).length<=10*a.length:=by
 unfold wrK
 split
 · exact wrGo_len a.length a (Nat.le_refl _)
 · simp
theorem tokK_len(a b:List UInt8)(t:Tok)(hm:mayT t=true)(ha:∀ c∈a,c.toNat<=15)(hb:∀ c∈b,c.toNat<=15):(tokK a b t).length<=50:=by
 have pl:∀ (x:List UInt8) s,(∀ c∈x,c.toNat<=15)->(ptK x s).length<=15:=fun x s h=>by
  unfold ptK
  split
  · exact bitK_len x s h
  · simp
 have h1:=pl a (pieceK t).sym ha
 have h2:=pl b (pieceK t).dist hb
 obtain⟨p1,p2,p3,p4,p5,p6⟩:=piece_bounds t hm
 unfold tokK
 split
 · simp;omega
 · simp only [List.length_append,bitsL_len];omega
theorem toksK_len(a b:List UInt8)(ha:∀ c∈a,c.toNat<=15)(hb:∀ c∈b,c.toNat<=15)(l:List Tok)(hm:∀ t∈l,mayT t=true):(toksK a b l).length<=50*l.length:=by
 induction l with
 | nil=>simp [toksK]
 | cons t l ih=>
  have h1:=tokK_len a b t (hm t (by simp)) ha hb
  have h2:=ih (fun t h=>hm t (by simp [h]))
  unfold toksK at *
  rw [List.flatMap_cons,List.length_append,List.length_cons];omega
def okCut(l:List UInt8):Bool:=decide (4<=l.length) && decide (putB (l.take (l.length - 4))=l)
def cutB(l:List UInt8):List UInt8:=if okCut l then l.take (l.length - 4)else []
def errCut(l:List UInt8):Nat:=if okCut l then 0 else if l.length<4 then 1 else 5
def markV(l:List UInt8):Nat × Nat:=
 if l.length<=4 then(0,1)else if l.take 4=[70,73,82,75]then(if 1<=(l.getD 4 0).toNat/\(l.getD 4 0).toNat<=3 then((l.getD 4 0).toNat,0)else(0,4))else(0,3)
def countB(l:List UInt8):Bool:=okCut l && decide (markV l=(3,0))
def leN:List UInt8->Nat
 | []=>0
 | b::l=>b.toNat+256*leN l
theorem leN_or(x b k:Nat)(h:x<2 ^ k):x ||| (b*2 ^ k)=x+b*2 ^ k:=by
 have:=Nat.two_pow_add_eq_or_of_lt h b
 rw [Nat.or_comm,Nat.mul_comm b,<- this,Nat.add_comm]
def numGo(i:Nat)(x:Nat):List UInt8->Nat × Nat × Nat
 | []=>(0,0,1)
 | c::t=>if(i=9/\¬c.toNat=1)\/(0<i/\c.toNat=0)then(0,0,2)else if c.toNat<128 then(x+c.toNat % 128*128 ^ i,i+1,0)else numGo (i+1) (x+c.toNat % 128*128 ^ i) t
def numL(l:List UInt8):Nat × Nat × Nat:=numGo 0 0 l
theorem numGo_ok(l:List UInt8):∀ (i x:Nat),i<=9->x<128 ^ i->(numGo i x l).1<18446744073709551616/\((numGo i x l).2.2=0->i<(numGo i x l).2.1/\(numGo i x l).2.1<=i+l.length/\(numGo i x l).2.1<=10)/\(¬(numGo i x l).2.2=0->(numGo i x l).1=0/\(numGo i x l).2.1=0/\(numGo i x l).2.2<=2):=by
 induction l with
 | nil=>intro i x hi hx;simp [numGo]
 | cons c t ih=>
  intro i x hi hx
  unfold numGo
  split
  · simp
  · rename_i hno
    have hm:c.toNat % 128<128:=Nat.mod_lt _ (by omega)
    have hx2:x+c.toNat % 128*128 ^ i<128 ^ (i+1):=by
     have:c.toNat % 128*128 ^ i<=127*128 ^ i:=Nat.mul_le_mul_right _ (by omega)
     rw [Nat.pow_succ];omega
    by_cases h9:i=9
    · have hc:c.toNat=1:=by omega
      subst h9
      rw [if_pos (by omega),hc]
      have e9:(128:Nat) ^ 9=9223372036854775808:=by decide
      rw [e9]at hx
      refine⟨?_,?_,?_⟩
      · have e1:x+1 % 128*128 ^ 9=x+9223372036854775808:=by rw [e9]
        show x+1 % 128*128 ^ 9<_
        rw [e1]
        clear hx2 hm e9 e1 hno ih
        omega
      · intro _;show 9<9+1/\9+1<=9+(c::t).length/\9+1<=10;simp only [List.length_cons];omega
      · intro h;exact absurd rfl h
    · have hp:(128:Nat) ^ (i+1)<=128 ^ 9:=Nat.pow_le_pow_right (by omega) (by omega)
      have e9:(128:Nat) ^ 9=9223372036854775808:=by decide
      split
      · refine⟨?_,?_,?_⟩
        · show x+c.toNat % 128*128 ^ i<_
          omega
        · intro _;simp;omega
        · intro h;simp at h
      · obtain⟨h1,h2,h3⟩:=ih (i+1) _ (by omega) hx2
        refine⟨h1,fun h=>?_,h3⟩
        obtain⟨a,b,c⟩:=h2 h
        refine⟨by omega,?_,c⟩
        simp only [List.length_cons];omega
theorem numL_lt(l:List UInt8):(numL l).1<18446744073709551616:=(numGo_ok l 0 0 (by omega) (by simp)).1
theorem numL_ok(l:List UInt8)(h:(numL l).2.2=0):0<(numL l).2.1/\(numL l).2.1<=l.length/\(numL l).2.1<=10:=by
 have:=(numGo_ok l 0 0 (by omega) (by simp)).2.1 h
 rw [Nat.zero_add]at this
 exact this
def limL(most:Nat)(l:List UInt8):Nat × Nat × Nat:=
 if(numL l).2.2=0 then(if most<(numL l).1 then(0,0,6)else numL l)else(0,0,(numL l).2.2)
theorem limL_ok(most:Nat)(l:List UInt8)(h:(limL most l).2.2=0):0<(limL most l).2.1/\(limL most l).2.1<=l.length/\(limL most l).1<=most:=by
 unfold limL at *
 split at h
 · rename_i h0
   split at h
   · simp at h
   · rename_i h1
     rw [if_pos h0,if_neg h1]
     have:=numL_ok l h0
     omega
 · rename_i h0;exact absurd h h0
structure Cs where
 at_:Nat
 er:Nat
def Cs.step(s:Cs)(r:Nat × Nat × Nat):Cs:=if s.er=0 then(if r.2.2=0 then⟨s.at_+r.2.1,0⟩else⟨s.at_,r.2.2⟩)else s
def Cs.val(s:Cs)(r:Nat × Nat × Nat):Nat:=if s.er=0/\r.2.2=0 then r.1 else 0
def Cs.num(s:Cs)(l:List UInt8):Nat × Cs:=(s.val (numL (l.drop s.at_)),s.step (numL (l.drop s.at_)))
def Cs.int(s:Cs)(l:List UInt8)(most:Nat):Nat × Cs:=(s.val (limL most (l.drop s.at_)),s.step (limL most (l.drop s.at_)))
def Cs.fail(s:Cs)(e:Nat):Cs:=if s.er=0 then⟨s.at_,e⟩else s
def Cs.fin(s:Cs)(l:List UInt8):Cs:=if s.er=0/\s.at_<l.length then⟨s.at_,2⟩else s
def Cs.take(s:Cs)(l:List UInt8)(k:Nat):List UInt8 × Cs:=
 if s.er=0 then(if l.length<s.at_+k then([],⟨s.at_,1⟩)else((l.drop s.at_).take k,⟨s.at_+k,0⟩))else([],s)
def Cs.byte(s:Cs)(l:List UInt8):Nat × Cs:=((((s.take l 1).1).getD 0 0).toNat,(s.take l 1).2)
def Cs.fixed(s:Cs)(l:List UInt8)(k:Nat):Nat × Cs:=(leN (s.take l k).1,(s.take l k).2)
def txtL(most:Nat)(l:List UInt8):List UInt8 × Nat × Nat:=
 if(limL most l).2.2=0 then(if l.length<(limL most l).2.1+(limL most l).1 then([],0,1)else((l.drop (limL most l).2.1).take (limL most l).1,(limL most l).2.1+(limL most l).1,0))else([],0,(limL most l).2.2)
def Cs.text(s:Cs)(l:List UInt8)(most:Nat):List UInt8 × Cs:=
 (if s.er=0 then(txtL most (l.drop s.at_)).1 else [],s.step (0,(txtL most (l.drop s.at_)).2))
theorem txtL_ok(most:Nat)(l:List UInt8)(h:(txtL most l).2.2=0):0<(txtL most l).2.1/\(txtL most l).2.1<=l.length/\(txtL most l).1.length<=most:=by
 unfold txtL at *
 split at h
 · rename_i h0
   split at h
   · simp at h
   · rename_i h1
     rw [if_pos h0,if_neg h1]
     have:=limL_ok most l h0
     refine⟨?_,?_,?_⟩
     · show 0<(limL most l).2.1+(limL most l).1;omega
     · show(limL most l).2.1+(limL most l).1<=_;omega
     · show(List.take _ _).length<=_
       rw [List.length_take];omega
 · rename_i h0;exact absurd h h0
theorem Cs.step_le(s:Cs)(r:Nat × Nat × Nat)(n:Nat)(h:s.at_<=n)(h2:r.2.2=0->r.2.1<=n - s.at_):(s.step r).at_<=n:=by
 unfold Cs.step
 split
 · split
   · rename_i h3;have:=h2 h3;show s.at_+_<=n;omega
   · exact h
 · exact h
theorem Cs.num_le(s:Cs)(l:List UInt8)(h:s.at_<=l.length):(s.num l).2.at_<=l.length:=
 s.step_le _ _ h fun e=>by have:=numL_ok _ e;rw [List.length_drop]at this;omega
theorem Cs.int_le(s:Cs)(l:List UInt8)(most:Nat)(h:s.at_<=l.length):(s.int l most).2.at_<=l.length:=
 s.step_le _ _ h fun e=>by have:=limL_ok _ _ e;rw [List.length_drop]at this;omega
theorem Cs.text_le(s:Cs)(l:List UInt8)(most:Nat)(h:s.at_<=l.length):(s.text l most).2.at_<=l.length:=
 s.step_le _ _ h fun e=>by have h2:=(txtL_ok _ _ e).2.1;rw [List.length_drop]at h2;exact h2
theorem Cs.take_le(s:Cs)(l:List UInt8)(k:Nat)(h:s.at_<=l.length):(s.take l k).2.at_<=l.length:=by
 unfold Cs.take
 split
 · split
   · exact h
   · show s.at_+k<=_;omega
 · exact h
def bitR(l:List UInt8)(i:Nat):Nat:=(l.getD (i / 8) 0).toNat / 2 ^ (7 - i % 8) % 2
def rbits(l:List UInt8):List UInt8:=(List.range (8*l.length)).map fun i=>UInt8.ofNat (bitR l i)
def numAt(l:List UInt8)(a:Nat):Nat->Nat
 | 0=>0
 | n+1=>2*numAt l a n+bitR l (a+n)
def unGo(l:List UInt8):Nat->Nat->Option Nat
 | 0,_=>none
 | f+1,i=>if bitR l i=1 then some i else unGo l f (i+1)
def unaR(l:List UInt8)(a:Nat):Nat × Nat × Nat:=
 match unGo l (8*l.length - a) a with
 | some i=>(i - a,i+1,0)
 | none=>(0,a,1)
def efGo(bound w:Nat)(r:List UInt8):Nat->Nat->Nat->Nat->Nat->List Nat->List Nat × Nat × Nat
 | 0,_,a,_,_,ids=>(ids,a,0)
 | k+1,i,a,high,lo,ids=>
  if (unaR r a).2.2 = 0 then
   (if (high + (unaR r a).1) * 2 ^ w + numAt r (w * i) w < lo then ([], 0, 2)
    else if bound ≤ (high + (unaR r a).1) * 2 ^ w + numAt r (w * i) w then ([], 0, 8)
    else efGo bound w r k (i + 1) (unaR r a).2.1 (high + (unaR r a).1) ((high + (unaR r a).1) * 2 ^ w + numAt r (w * i) w + 1) (ids ++ [(high + (unaR r a).1) * 2 ^ w + numAt r (w * i) w]))
  else([],0,1)
def padB(r:List UInt8)(a:Nat):Bool:=decide (numAt r a ((8 - a % 8) % 8)=0)
def efR(bound:Nat)(b:List UInt8):List Nat × Nat × Nat:=
 if (limL bound b).2.2 = 0 then
  (if (limL bound b).1 = 0 then ([], (limL bound b).2.1, 0)
   else if 8 * (b.drop (limL bound b).2.1).length < (limL bound b).1 * Nat.log2 (bound / (limL bound b).1) then ([], 0, 1)
   else if (efGo bound (Nat.log2 (bound / (limL bound b).1)) (b.drop (limL bound b).2.1) (limL bound b).1 0 ((limL bound b).1 * Nat.log2 (bound / (limL bound b).1)) 0 0 []).2.2 = 0 then
    (if padB (b.drop (limL bound b).2.1) (efGo bound (Nat.log2 (bound / (limL bound b).1)) (b.drop (limL bound b).2.1) (limL bound b).1 0 ((limL bound b).1 * Nat.log2 (bound / (limL bound b).1)) 0 0 []).2.1 then
     ((efGo bound (Nat.log2 (bound / (limL bound b).1)) (b.drop (limL bound b).2.1) (limL bound b).1 0 ((limL bound b).1 * Nat.log2 (bound / (limL bound b).1)) 0 0 []).1,
      (limL bound b).2.1 + ((efGo bound (Nat.log2 (bound / (limL bound b).1)) (b.drop (limL bound b).2.1) (limL bound b).1 0 ((limL bound b).1 * Nat.log2 (bound / (limL bound b).1)) 0 0 []).2.1 + 7) / 8, 0)
     else ([], 0, 2))
   else ([], 0, (efGo bound (Nat.log2 (bound / (limL bound b).1)) (b.drop (limL bound b).2.1) (limL bound b).1 0 ((limL bound b).1 * Nat.log2 (bound / (limL bound b).1)) 0 0 []).2.2))
 else([],0,(limL bound b).2.2)
def hitK(lens:List UInt8)(x there s:Nat):Bool:=
 decide (0<symL lens s) && decide (symL lens s<=there) && decide (x / 2 ^ (15 - symL lens s)=valK lens (symL lens s) s)
def hitS(lens:List UInt8)(x there:Nat):Option Nat:=(List.range lens.length).find? (hitK lens x there)
def partK(lens:List UInt8)(y l:Nat):Bool:=(List.range lens.length).any fun s=>decide (l<symL lens s) && decide (valK lens (symL lens s) s / 2 ^ (symL lens s - l)=y)
def maxL(l:List Nat):Nat:=l.foldl max 0
def pushD(st:List Nat)(n:Nat):List Nat:=st.take (st.length - n)++[maxL (st.drop (st.length - n))+1]
end Go.Fk
