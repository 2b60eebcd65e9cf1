/- Parts of the proof of ArchOne: SpecJg SpecJh SpecJi SpecK SpecZ SpecH SpecK2 SpecY SpecY2 SpecJ9 SpecLe SpecJ SpecJ2 SpecX SpecF SpecI SpecM Spec28b. -/
import Derived.Test.YtdagmoonnbnceaaGreatDoorM06
set_option linter.unusedVariables false
set_option linter.unusedSectionVars false
set_option linter.unusedSimpArgs false
set_option maxHeartbeats 8000000
namespace Go.Fk
def lfN(lv:List It)(r t:Nat):Nat:=leavesN ((rowI lv r).take t)
theorem lfN_le(lv:List It)(r t:Nat):lfN lv r t<=t:=by
 unfold lfN
 have h1:=leavesN_le ((rowI lv r).take t)
 rw [List.length_take]at h1
 omega
def dI(lv:List It)(i:Nat):Nat->Nat->Nat
 | 0,t=>if i<lfN lv 0 t then 1 else 0
 | r+1,t=>(if i<lfN lv (r+1) t then 1 else 0)+dI lv i r (2*(t - lfN lv (r+1) t))
def wI(lv:List It)(i:Nat):Nat->Nat->Nat
 | 0,t=>if i<lfN lv 0 t then 1 else 0
 | r+1,t=>(if i<lfN lv (r+1) t then 2 ^ (r+1)else 0)+wI lv i r (2*(t - lfN lv (r+1) t))
def sI(lv:List It):Nat->Nat->Nat
 | 0,t=>lfN lv 0 t
 | r+1,t=>lfN lv (r+1) t*2 ^ (r+1)+sI lv r (2*(t - lfN lv (r+1) t))
def MonoI(lv:List It)(R:Nat):Prop:=∀ r t,r<R->t<=(rowI lv (r+1)).length->lfN lv r (2*(t - lfN lv (r+1) t))<=lfN lv (r+1) t
theorem room_I(lv:List It)(hl:∀ x∈lv,x.leaf=true)(r t:Nat)(ht:t<=(rowI lv (r+1)).length):2*(t - lfN lv (r+1) t)<=(rowI lv r).length/\lfN lv (r+1) t<=lv.length:=by
 rw [rowI]at ht
 obtain⟨n,m,h1,h2,h3,h4,_⟩:=merge_take lv hl (pairsI (rowI lv r)) (pairsI_leaf _) t ht
 rw [pairsI_len]at h3
 have h5:lfN lv (r+1) t=n:=h4
 rw [h5]
 omega
theorem sI_all(lv:List It)(hl:∀ x∈lv,x.leaf=true):∀ r t,t<=(rowI lv r).length->sI lv r t=t*2 ^ r:=by
 intro r
 induction r with
 | zero=>
  intro t ht
  show leavesN (lv.take t)=_
  unfold leavesN
  rw [List.filter_eq_self.2 fun x hx=>hl x (List.mem_of_mem_take hx),List.length_take]
  have:t<=lv.length:=ht
  simp;omega
 | succ r ih=>
  intro t ht
  have h1:=room_I lv hl r t ht
  have h2:=lfN_le lv (r+1) t
  rw [sI,ih _ h1.1]
  have e:2*(t - lfN lv (r+1) t)*2 ^ r=(t - lfN lv (r+1) t)*2 ^ (r+1):=by rw [Nat.pow_succ,Nat.mul_comm 2,Nat.mul_assoc,Nat.mul_comm 2]
  rw [e,<- Nat.add_mul]
  congr 1;omega
theorem dI_zero(lv:List It)(hl:∀ x∈lv,x.leaf=true){R:Nat}(hm:MonoI lv R)(i:Nat):∀ r t,r<=R->t<=(rowI lv r).length->lfN lv r t<=i->dI lv i r t=0/\wI lv i r t=0:=by
 intro r
 induction r with
 | zero=>intro t _ _ h;unfold dI wI;rw [if_neg (by omega)];exact⟨rfl,rfl⟩
 | succ r ih=>
  intro t hR ht h
  have h1:=room_I lv hl r t ht
  have h2:=hm r t (by omega) ht
  have h3:=ih _ (by omega) h1.1 (by omega)
  rw [dI,wI,h3.1,h3.2,if_neg (by omega),if_neg (by omega)]
  exact⟨rfl,rfl⟩
theorem wI_dI(lv:List It)(hl:∀ x∈lv,x.leaf=true){R:Nat}(hm:MonoI lv R)(i:Nat):∀ r t,r<=R->t<=(rowI lv r).length->dI lv i r t<=r+1/\wI lv i r t+2 ^ (r+1 - dI lv i r t)=2 ^ (r+1):=by
 intro r
 induction r with
 | zero=>
  intro t _ _
  unfold dI wI
  split <;> simp
 | succ r ih=>
  intro t hR ht
  have h1:=room_I lv hl r t ht
  have h2:=ih _ (by omega) h1.1
  have h3:=hm r t (by omega) ht
  by_cases h:i<lfN lv (r+1) t
  · rw [dI,wI,if_pos h,if_pos h]
    generalize dI lv i r (2*(t - lfN lv (r+1) t))=d at *
    generalize wI lv i r (2*(t - lfN lv (r+1) t))=x at *
    refine⟨by omega,?_⟩
    rw [show r+1+1 - (1+d)=r+1 - d by omega,Nat.pow_succ 2 (r+1)]
    omega
  · have h4:=dI_zero lv hl hm i r _ (by omega) h1.1 (by omega)
    rw [dI,wI,if_neg h,if_neg h,h4.1,h4.2]
    simp
theorem sum_ind(N n c:Nat)(h:n<=N):((List.range N).map fun i=>if i<n then c else 0).sum=n*c:=by
 induction N with
 | zero=>
  have:n=0:=by omega
  subst this;simp
 | succ N ih=>
  rw [List.range_succ,List.map_append,List.sum_append]
  simp only [List.map_cons,List.map_nil,List.sum_cons,List.sum_nil,Nat.add_zero]
  by_cases h1:n<=N
  · rw [ih h1,if_neg (by omega),Nat.add_zero]
  · have e:n=N+1:=by omega
    subst e
    rw [if_pos (by omega)]
    have e2:((List.range N).map fun i=>if i<N+1 then c else 0)=(List.range N).map fun _=>c:=by
     apply List.map_congr_left
     intro i hi
     have:=List.mem_range.1 hi
     rw [if_pos (by omega)]
    rw [e2,List.map_const',List.sum_replicate_nat,List.length_range,Nat.add_mul,Nat.one_mul]
theorem sum_two{f g:Nat->Nat}(l:List Nat):(l.map fun i=>f i+g i).sum=(l.map f).sum+(l.map g).sum:=by
 induction l with
 | nil=>rfl
 | cons x l ih=>simp only [List.map_cons,List.sum_cons,ih];omega
theorem wI_sum(lv:List It)(hl:∀ x∈lv,x.leaf=true):∀ r t,t<=(rowI lv r).length->((List.range lv.length).map fun i=>wI lv i r t).sum=sI lv r t:=by
 intro r
 induction r with
 | zero=>
  intro t ht
  have h1:=lfN_le lv 0 t
  have h2:t<=lv.length:=ht
  have:=sum_ind lv.length (lfN lv 0 t) 1 (by omega)
  rw [Nat.mul_one]at this
  exact this
 | succ r ih=>
  intro t ht
  have h1:=room_I lv hl r t ht
  have h2:=sum_ind lv.length (lfN lv (r+1) t) (2 ^ (r+1)) h1.2
  have h3:=sum_two (f:=fun i=>if i<lfN lv (r+1) t then 2 ^ (r+1)else 0) (g:=fun i=>wI lv i r (2*(t - lfN lv (r+1) t))) (List.range lv.length)
  rw [h2,ih _ h1.1]at h3
  exact h3
theorem kraft_I(lv:List It)(hl:∀ x∈lv,x.leaf=true)(r:Nat)(hm:MonoI lv r)(hn:1<=lv.length)(ht:2*lv.length - 2<=(rowI lv r).length) :
  ((List.range lv.length).map fun i=>2 ^ (r+1 - dI lv i r (2*lv.length - 2))).sum=2 ^ (r+1):=by
 have h1:=wI_sum lv hl r _ ht
 rw [sI_all lv hl r _ ht]at h1
 have h2:=sum_two (f:=fun i=>wI lv i r (2*lv.length - 2)) (g:=fun i=>2 ^ (r+1 - dI lv i r (2*lv.length - 2))) (List.range lv.length)
 have e:(fun i=>wI lv i r (2*lv.length - 2)+2 ^ (r+1 - dI lv i r (2*lv.length - 2)))=fun _=>2 ^ (r+1):=by
  funext i
  exact(wI_dI lv hl hm i r _ (Nat.le_refl _) ht).2
 rw [e,h1,List.map_const',List.sum_replicate_nat,List.length_range]at h2
 obtain⟨n,hN⟩:∃ n,lv.length=n+1:=⟨lv.length - 1,by omega⟩
 rw [hN]at h2 ⊢
 rw [show 2*(n+1) - 2=2*n by omega]at h2 ⊢
 rw [show 2*n*2 ^ r=n*2 ^ (r+1) by rw [Nat.pow_succ,Nat.mul_comm 2,Nat.mul_assoc,Nat.mul_comm 2],Nat.add_mul,Nat.one_mul]at h2
 omega
def SortW(l:List It):Prop:=l.Pairwise fun x y=>x.w.toNat<=y.w.toNat
theorem merge_less(ls ks:List It)(hs:SortW ls)(hl:∀ x∈ls,x.leaf=true)(hk:∀ x∈ks,x.leaf=false) :
  ∀ t,t<=(mergeI ls ks).length->∀ (h1:leavesN ((mergeI ls ks).take t)<ls.length) (h2:leavesN ((mergeI ls ks).take t)<t),∃ k,ks[t - leavesN ((mergeI ls ks).take t) - 1]? = some k/\k.w.toNat<(ls[leavesN ((mergeI ls ks).take t)]).w.toNat:=by
 induction ls,ks using mergeI.induct with
 | case1 ks=>intro t _ h;simp at h
 | case2 l ls=>
  intro t ht h1 h2
  exfalso
  rw [mergeI_nil]at h2 ht
  unfold leavesN at h2
  rw [List.filter_eq_self.2 fun x hx=>hl x (List.mem_of_mem_take hx),List.length_take]at h2
  omega
 | case3 l ls k ks h ih=>
  intro t ht h1 h2
  cases t with
  | zero=>omega
  | succ t=>
   have e:leavesN ((mergeI (l::ls) (k::ks)).take (t+1))=leavesN ((mergeI ls (k::ks)).take t)+1:=by
    rw [mergeI,if_pos h,List.take_succ_cons]
    unfold leavesN
    rw [List.filter_cons,if_pos (hl l (by simp)),List.length_cons]
   have hlen:t<=(mergeI ls (k::ks)).length:=by rw [mergeI,if_pos h,List.length_cons]at ht;omega
   have h3:leavesN ((mergeI ls (k::ks)).take t)<ls.length:=by rw [e,List.length_cons]at h1;omega
   have h4:leavesN ((mergeI ls (k::ks)).take t)<t:=by omega
   obtain⟨q,q1,q2⟩:=ih (List.pairwise_cons.1 hs).2 (fun x hx=>hl x (by simp [hx])) hk t hlen h3 h4
   refine⟨q,?_,?_⟩
   · rw [e,show t+1 - (leavesN ((mergeI ls (k::ks)).take t)+1) - 1=t - leavesN ((mergeI ls (k::ks)).take t) - 1 by omega]
     exact q1
   · simp only [e,List.getElem_cons_succ]
     exact q2
 | case4 l ls k ks h ih=>
  intro t ht h1 h2
  cases t with
  | zero=>omega
  | succ t=>
   have e:leavesN ((mergeI (l::ls) (k::ks)).take (t+1))=leavesN ((mergeI (l::ls) ks).take t):=by
    rw [mergeI,if_neg h,List.take_succ_cons]
    unfold leavesN
    rw [List.filter_cons,if_neg (by rw [hk k (by simp)];simp)]
   have hlen:t<=(mergeI (l::ls) ks).length:=by rw [mergeI,if_neg h,List.length_cons]at ht;omega
   have hlt:k.w.toNat<l.w.toNat:=by
    rcases Nat.lt_or_ge k.w.toNat l.w.toNat with h5 | h5
    · exact h5
    · exact absurd (UInt64.le_iff_toNat_le.2 h5) h
   have h3:leavesN ((mergeI (l::ls) ks).take t)<(l::ls).length:=by rw [e]at h1;exact h1
   have hmin:l.w.toNat<=((l::ls)[leavesN ((mergeI (l::ls) ks).take t)]).w.toNat:=by
    rcases Nat.eq_zero_or_pos (leavesN ((mergeI (l::ls) ks).take t))with h5 | h5
    · simp only [h5,List.getElem_cons_zero];exact Nat.le_refl _
    · exact List.pairwise_iff_getElem.1 hs 0 _ (by simp) h3 h5
   by_cases h4:leavesN ((mergeI (l::ls) ks).take t)<t
   · obtain⟨q,q1,q2⟩:=ih hs hl (fun x hx=>hk x (by simp [hx])) t hlen h3 h4
     refine⟨q,?_,?_⟩
     · rw [e,show t+1 - leavesN ((mergeI (l::ls) ks).take t) - 1=(t - leavesN ((mergeI (l::ls) ks).take t) - 1)+1 by omega,List.getElem?_cons_succ]
       exact q1
     · simp only [e]
       exact q2
   · refine⟨k,?_,?_⟩
     · have h5:=leavesN_le ((mergeI (l::ls) ks).take t)
       rw [List.length_take]at h5
       rw [e,show t+1 - leavesN ((mergeI (l::ls) ks).take t) - 1=0 by omega]
       rfl
     · simp only [e]
       omega
theorem merge_mem(ls ks:List It):∀ x,x∈mergeI ls ks↔x∈ls\/x∈ks:=by
 induction ls,ks using mergeI.induct with
 | case1 ks=>intro x;rw [nil_mergeI];simp
 | case2 l ls=>intro x;rw [mergeI_nil];simp
 | case3 l ls k ks h ih=>intro x;rw [mergeI,if_pos h,List.mem_cons,ih x,List.mem_cons (b:=l)];exact or_assoc.symm
 | case4 l ls k ks h ih=>
  intro x
  rw [mergeI,if_neg h,List.mem_cons,ih x,List.mem_cons (b:=k)]
  constructor
  · rintro(h | h | h)
    · exact .inr (.inl h)
    · exact .inl h
    · exact .inr (.inr h)
  · rintro(h | h | h)
    · exact .inr (.inl h)
    · exact .inl h
    · exact .inr (.inr h)
theorem merge_sorted(ls ks:List It):SortW ls->SortW ks->SortW (mergeI ls ks):=by
 induction ls,ks using mergeI.induct with
 | case1 ks=>intro _ h;rw [nil_mergeI];exact h
 | case2 l ls=>intro h _;rw [mergeI_nil];exact h
 | case3 l ls k ks h ih=>
  intro hs hk
  have h1:=UInt64.le_iff_toNat_le.1 h
  obtain⟨s1,s2⟩:=List.pairwise_cons.1 hs
  obtain⟨k1,_⟩:=List.pairwise_cons.1 hk
  rw [mergeI,if_pos h]
  refine List.pairwise_cons.2 ⟨fun x hx=>?_,ih s2 hk⟩
  rcases(merge_mem _ _ x).1 hx with h2 | h2
  · exact s1 x h2
  · rcases List.mem_cons.1 h2 with rfl | h2
    · exact h1
    · exact Nat.le_trans h1 (k1 x h2)
 | case4 l ls k ks h ih=>
  intro hs hk
  have h1:k.w.toNat<=l.w.toNat:=by
   rcases Nat.lt_or_ge l.w.toNat k.w.toNat with h5 | h5
   · exact absurd (UInt64.le_iff_toNat_le.2 (by omega)) h
   · exact h5
  obtain⟨s1,_⟩:=List.pairwise_cons.1 hs
  obtain⟨k1,k2⟩:=List.pairwise_cons.1 hk
  rw [mergeI,if_neg h]
  refine List.pairwise_cons.2 ⟨fun x hx=>?_,ih hs k2⟩
  rcases(merge_mem _ _ x).1 hx with h2 | h2
  · rcases List.mem_cons.1 h2 with rfl | h2
    · exact h1
    · exact Nat.le_trans h1 (s1 x h2)
  · exact k1 x h2
theorem pairs_at:∀ (l:List It) (j:Nat) (k:It),(pairsI l)[j]? = some k->∃ a b,l[2*j]? = some a/\l[2*j+1]? = some b/\k.w=a.w+b.w
 | [],j,k,h=>by simp [pairsI]at h
 | [_],j,k,h=>by simp [pairsI]at h
 | a::b::l,j,k,h=>by
  rw [pairsI]at h
  cases j with
  | zero=>
   simp only [List.getElem?_cons_zero,Option.some.injEq]at h
   subst h
   exact⟨a,b,rfl,rfl,rfl⟩
  | succ j=>
   rw [List.getElem?_cons_succ]at h
   obtain⟨x,y,h1,h2,h3⟩:=pairs_at l j k h
   refine⟨x,y,?_,?_,h3⟩
   · rw [show 2*(j+1)=2*j+1+1 by omega,List.getElem?_cons_succ,List.getElem?_cons_succ];exact h1
   · rw [show 2*(j+1)+1=2*j+1+1+1 by omega,List.getElem?_cons_succ,List.getElem?_cons_succ];exact h2
theorem add_w{a b:UInt64}{B:Nat}(h1:a.toNat<=B)(h2:b.toNat<=B)(hB:2*B<18446744073709551616):(a+b).toNat=a.toNat+b.toNat:=by
 rw [UInt64.toNat_add]
 exact Nat.mod_eq_of_lt (by omega)
theorem row_bound(lv:List It)(M:Nat)(h:∀ x∈lv,x.w.toNat<=M):∀ r,∀ x∈rowI lv r,x.w.toNat<=M*2 ^ r:=by
 intro r
 induction r with
 | zero=>intro x hx;have:=h x hx;simpa using this
 | succ r ih=>
  intro x hx
  have hp:2 ^ r ≥ 1:=Nat.two_pow_pos r
  have e:M*2 ^ (r+1)=M*2 ^ r+M*2 ^ r:=by rw [Nat.pow_succ,<- Nat.mul_assoc];omega
  rw [rowI]at hx
  rcases(merge_mem _ _ x).1 hx with h1 | h1
  · have h2:=h x h1
    have h3:M*1<=M*2 ^ r:=Nat.mul_le_mul_left _ hp
    omega
  · obtain⟨j,hj⟩:=List.mem_iff_getElem?.1 h1
    obtain⟨a,b,h2,h3,h4⟩:=pairs_at _ _ _ hj
    have h5:=ih a (List.mem_of_getElem? h2)
    have h6:=ih b (List.mem_of_getElem? h3)
    rw [h4,UInt64.toNat_add,e]
    exact Nat.le_trans (Nat.mod_le _ _) (by omega)
theorem sort_at{l:List It}(h:SortW l){i j:Nat}{a b:It}(hij:i<=j)(ha:l[i]? = some a)(hb:l[j]? = some b):a.w.toNat<=b.w.toNat:=by
 obtain⟨h1,e1⟩:=List.getElem?_eq_some_iff.1 ha
 obtain⟨h2,e2⟩:=List.getElem?_eq_some_iff.1 hb
 rcases Nat.eq_or_lt_of_le hij with h3 | h3
 · subst h3
   rw [<- e1,<- e2];exact Nat.le_refl _
 · have:=List.pairwise_iff_getElem.1 h i j h1 h2 h3
   rw [e1,e2]at this
   exact this
theorem pairs_sorted(l:List It)(B:Nat)(h:SortW l)(hb:∀ x∈l,x.w.toNat<=B)(hB:2*B<18446744073709551616):SortW (pairsI l):=by
 refine List.pairwise_iff_getElem.2 fun i j hi hj hij=>?_
 obtain⟨a,b,h1,h2,h3⟩:=pairs_at l i _ (List.getElem?_eq_getElem hi)
 obtain⟨c,d,h4,h5,h6⟩:=pairs_at l j _ (List.getElem?_eq_getElem hj)
 have m1:=hb a (List.mem_of_getElem? h1)
 have m2:=hb b (List.mem_of_getElem? h2)
 have m3:=hb c (List.mem_of_getElem? h4)
 have m4:=hb d (List.mem_of_getElem? h5)
 have s1:=sort_at h (show 2*i<=2*j by omega) h1 h4
 have s2:=sort_at h (show 2*i+1<=2*j+1 by omega) h2 h5
 rw [h3,h6,add_w m1 m2 hB,add_w m3 m4 hB]
 omega
theorem row_sorted(lv:List It)(M:Nat)(hs:SortW lv)(h:∀ x∈lv,x.w.toNat<=M):∀ r,M*2 ^ r<18446744073709551616->SortW (rowI lv r):=by
 intro r
 induction r with
 | zero=>intro _;exact hs
 | succ r ih=>
  intro hB
  have e:M*2 ^ (r+1)=2*(M*2 ^ r):=by rw [Nat.pow_succ,<- Nat.mul_assoc];omega
  rw [rowI]
  exact merge_sorted _ _ hs (pairs_sorted _ _ (ih (by omega)) (row_bound lv M h r) (by omega))
theorem leaves_first(lv:List It)(hl:∀ x∈lv,x.leaf=true)(r t:Nat)(ht:t<=(rowI lv r).length)(i:Nat)(hi:i<lfN lv r t):∃ x,lv[i]? = some x/\x∈(rowI lv r).take t:=by
 cases r with
 | zero=>
  have h1:=lfN_le lv 0 t
  have h2:t<=lv.length:=ht
  have h3:i<lv.length:=by omega
  refine⟨lv[i],List.getElem?_eq_getElem h3,?_⟩
  show lv[i]∈lv.take t
  exact List.mem_take_iff_getElem.2 ⟨i,by omega,rfl⟩
 | succ r=>
  unfold lfN at hi
  rw [rowI]at ht hi ⊢
  obtain⟨n,m,h1,h2,h3,h4,h5,_⟩:=merge_take lv hl (pairsI (rowI lv r)) (pairsI_leaf _) t ht
  rw [h4]at hi
  have h6:i<lv.length:=by omega
  refine⟨lv[i],List.getElem?_eq_getElem h6,?_⟩
  have h7:lv[i]∈lv.take n:=List.mem_take_iff_getElem.2 ⟨i,by omega,rfl⟩
  rw [<- h5]at h7
  exact(List.mem_filter.1 h7).1
theorem mono_I(lv:List It)(M R:Nat)(hl:∀ x∈lv,x.leaf=true)(hs:SortW lv)(h:∀ x∈lv,x.w.toNat<=M)(hB:M*2 ^ R<18446744073709551616):MonoI lv R:=by
 intro r t hr ht
 have hp:2 ^ (r+1)<=2 ^ R:=Nat.pow_le_pow_right (by omega) hr
 have hMr:M*2 ^ (r+1)<=M*2 ^ R:=Nat.mul_le_mul_left _ hp
 have e:M*2 ^ (r+1)=2*(M*2 ^ r):=by rw [Nat.pow_succ,<- Nat.mul_assoc];omega
 have hroom:=room_I lv hl r t ht
 have hnt:=lfN_le lv (r+1) t
 rcases Nat.lt_or_ge (lfN lv (r+1) t) (lfN lv r (2*(t - lfN lv (r+1) t)))with hlt | hge
 · exfalso
   have h1:=lfN_le lv r (2*(t - lfN lv (r+1) t))
   obtain⟨x,hx,hmem⟩:=leaves_first lv hl r _ hroom.1 _ hlt
   obtain⟨hxl,hxe⟩:=List.getElem?_eq_some_iff.1 hx
   have hlt2:lfN lv (r+1) t<t:=by omega
   have hl2:leavesN ((mergeI lv (pairsI (rowI lv r))).take t)=lfN lv (r+1) t:=rfl
   obtain⟨k,k1,k2⟩:=merge_less lv (pairsI (rowI lv r)) hs hl (pairsI_leaf _) t (by rw [rowI]at ht;exact ht) hxl hlt2
   rw [hl2]at k1
   have k3:k.w.toNat<x.w.toNat:=by rw [<- hxe];exact k2
   obtain⟨a,b,q1,q2,q3⟩:=pairs_at _ _ _ k1
   have hb:=row_bound lv M h r
   have hsum:=add_w (hb a (List.mem_of_getElem? q1)) (hb b (List.mem_of_getElem? q2)) (by omega)
   obtain⟨i,hi,hie⟩:=List.mem_take_iff_getElem.1 hmem
   have hxb:x.w.toNat<=b.w.toNat:=sort_at (row_sorted lv M hs h r (by omega)) (i:=i) (j:=2*(t - lfN lv (r+1) t - 1)+1) (by omega) (by rw [List.getElem?_eq_getElem (by omega),hie]) q2
   rw [q3,hsum]at k3
   omega
 · exact hge
def cntK(lens:List UInt8)(l:Nat):Nat:=lens.countP fun c=>c.toNat == l
theorem cntK_le(lens:List UInt8)(l:Nat):cntK lens l<=lens.length:=List.countP_le_length
theorem cntK_nil(l:Nat):cntK [] l=0:=rfl
theorem cntK_app(a b:List UInt8)(l:Nat):cntK (a++b) l=cntK a l+cntK b l:=by simp [cntK]
theorem cntK_cons(c:UInt8)(b:List UInt8)(l:Nat):cntK (c::b) l=cntK b l+if c.toNat=l then 1 else 0:=by
 simp [cntK,List.countP_cons]
theorem cntK_take(lens:List UInt8)(k l:Nat)(h:k<lens.length):cntK (lens.take (k+1)) l=cntK (lens.take k) l+if lens[k].toNat=l then 1 else 0:=by
 rw [List.take_succ_eq_append_getElem h,cntK_app,cntK_cons,cntK_nil];omega
theorem cntK_take_le(lens:List UInt8)(k l:Nat):cntK (lens.take k) l<=cntK lens l:=by
 conv=>rhs;rw [<- List.take_append_drop k lens]
 rw [cntK_app];omega
def firstK(lens:List UInt8):Nat->Nat
 | 0=>0
 | 1=>0
 | l+2=>2*(firstK lens (l+1)+cntK lens (l+1))
theorem firstK_succ(lens:List UInt8)(l:Nat)(h:1<=l):firstK lens (l+1)=2*(firstK lens l+cntK lens l):=by
 obtain⟨k,rfl⟩:∃ k,l=k+1:=⟨l - 1,by omega⟩
 rfl
theorem firstK_le(lens:List UInt8)(l:Nat):firstK lens l+2*lens.length<=lens.length*2 ^ (l+1):=by
 induction l with
 | zero=>simp [firstK];omega
 | succ l ih=>
  rcases Nat.eq_zero_or_pos l with rfl | hp
  · simp [firstK];omega
  · rw [firstK_succ lens l hp]
    have:=cntK_le lens l
    have e:lens.length*2 ^ (l+1+1)=2*(lens.length*2 ^ (l+1)):=by rw [Nat.pow_succ 2 (l+1)];simp [Nat.mul_comm,Nat.mul_left_comm]
    rw [e];omega
def valK(lens:List UInt8)(l s:Nat):Nat:=firstK lens l+cntK (lens.take s) l
theorem valK_le(lens:List UInt8)(l s:Nat)(hl:l<=15)(hn:lens.length<=300):valK lens l s<=20000000:=by
 have h1:=firstK_le lens l
 have h2:=cntK_take_le lens s l
 have h3:=cntK_le lens l
 have h4:lens.length*2 ^ (l+1)<=300*2 ^ 16:=Nat.mul_le_mul hn (Nat.pow_le_pow_right (by omega) (by omega))
 unfold valK;omega
theorem valK_zero(lens:List UInt8)(l:Nat):valK lens l 0=firstK lens l:=by simp [valK,cntK_nil]
theorem valK_succ(lens:List UInt8)(l s:Nat)(h:s<lens.length):valK lens l (s+1)=valK lens l s+if lens[s].toNat=l then 1 else 0:=by
 unfold valK;rw [cntK_take _ _ _ h];omega
theorem valK_end(lens:List UInt8)(l:Nat)(h:1<=l):valK lens (l+1) 0=2*valK lens l lens.length:=by
 rw [valK_zero,firstK_succ _ _ h,valK,List.take_length]
def codesK(lens:List UInt8):List Nat:=lens.mapIdx fun s c=>if c=0 then 0 else valK lens c.toNat s % 65536
theorem codesK_len(lens:List UInt8):(codesK lens).length=lens.length:=by simp [codesK]
theorem codesK_at(lens:List UInt8)(s:Nat)(h:s<lens.length):(codesK lens)[s]'(by rw [codesK_len];exact h)=if lens[s]=0 then 0 else valK lens lens[s].toNat s % 65536:=by simp [codesK]
def kraftK(lens:List UInt8):Nat:=(lens.map fun c=>if c=0 then 0 else 2 ^ (15 - c.toNat)).sum
theorem kraftK_cons(c:UInt8)(l:List UInt8):kraftK (c::l)=(if c=0 then 0 else 2 ^ (15 - c.toNat))+kraftK l:=rfl
theorem kraftK_le(lens:List UInt8):kraftK lens<=lens.length*16384:=by
 induction lens with
 | nil=>simp [kraftK]
 | cons c l ih=>
  rw [kraftK_cons,List.length_cons]
  have:(if c=0 then 0 else 2 ^ (15 - c.toNat))<=16384:=by
   split
   · omega
   · rename_i h
     have h0:c.toNat≠0:=fun e=>h (UInt8.toNat_inj.1 (by simpa using e))
     have:2 ^ (15 - c.toNat)<=2 ^ 14:=Nat.pow_le_pow_right (by omega) (by omega)
     omega
  omega
def sumK(f:Nat->Nat):Nat->Nat
 | 0=>0
 | l+1=>sumK f l+f (l+1)
theorem sumK_add(f g:Nat->Nat)(l:Nat):sumK (fun k=>f k+g k) l=sumK f l+sumK g l:=by
 induction l with
 | zero=>rfl
 | succ l ih=>simp only [sumK,ih];omega
theorem sumK_zero(l:Nat):sumK (fun _=>0) l=0:=by induction l with | zero=>rfl | succ l ih=>simp [sumK,ih]
theorem sumK_one(c v:Nat)(l:Nat):sumK (fun k=>if c=k then v else 0) l=if 1<=c/\c<=l then v else 0:=by
 induction l with
 | zero=>simp [sumK];omega
 | succ l ih=>
  rw [sumK,ih]
  by_cases h1:c=l+1
  · subst h1;rw [if_neg (by omega),if_pos rfl,if_pos (by omega)];omega
  · rw [if_neg h1]
    by_cases h2:1<=c/\c<=l
    · rw [if_pos h2,if_pos (by omega)];omega
    · rw [if_neg h2,if_neg (by omega)]
theorem sumK_congr(f g:Nat->Nat)(l:Nat)(h:∀ k,1<=k->k<=l->f k=g k):sumK f l=sumK g l:=by
 induction l with
 | zero=>rfl
 | succ l ih=>rw [sumK,sumK,ih (fun k a b=>h k a (by omega)),h (l+1) (by omega) (by omega)]
theorem sum_kraft(lens:List UInt8)(h:∀ c∈lens,c.toNat<=15):sumK (fun l=>cntK lens l*2 ^ (15 - l)) 15=kraftK lens:=by
 induction lens with
 | nil=>simp [cntK_nil,kraftK,sumK_zero]
 | cons c lens ih=>
  have hc:=h c (by simp)
  rw [kraftK_cons,<- ih (fun c hc=>h c (by simp [hc]))]
  rw [sumK_congr (fun l => cntK (c :: lens) l * 2 ^ (15 - l)) (fun l => (cntK lens l * 2 ^ (15 - l)) + if c.toNat = l then 2 ^ (15 - c.toNat) else 0) 15 (fun k _ _ => by
   rw [cntK_cons, Nat.add_mul]
   by_cases e : c.toNat = k
   · rw [if_pos e, if_pos e, e]; omega
   · rw [if_neg e, if_neg e]; omega)]
  rw [sumK_add,sumK_one]
  by_cases h0:c=0
  · subst h0;simp
  · have h0':c.toNat≠0:=fun e=>h0 (UInt8.toNat_inj.1 (by simpa using e))
    rw [if_pos (by omega),if_neg h0];omega
def wordsK(lens:List UInt8):Nat:=lens.countP fun c=>c != 0
theorem wordsK_le(lens:List UInt8):wordsK lens<=lens.length:=List.countP_le_length
theorem sum_words(lens:List UInt8)(h:∀ c∈lens,c.toNat<=15):sumK (cntK lens) 15=wordsK lens:=by
 induction lens with
 | nil=>exact sumK_zero 15
 | cons c lens ih=>
  have hc:=h c (by simp)
  rw [sumK_congr (cntK (c::lens)) (fun l=>cntK lens l+if c.toNat=l then 1 else 0) 15 (fun k _ _=>cntK_cons c lens k),sumK_add,sumK_one,ih (fun c hc=>h c (by simp [hc]))]
  unfold wordsK
  rw [List.countP_cons]
  by_cases h0:c=0
  · subst h0;simp
  · have h0':c.toNat≠0:=fun e=>h0 (UInt8.toNat_inj.1 (by simpa using e))
    simp [h0];omega
def okK(lens:List UInt8):Bool:=decide (wordsK lens=0) || decide (kraftK lens=32768) || (decide (wordsK lens=1) && decide (cntK lens 1=1))
theorem first_sum(lens:List UInt8):∀ l,l<=15->(firstK lens l+(if l=0 then 0 else cntK lens l))*2 ^ (15 - l)=sumK (fun k=>cntK lens k*2 ^ (15 - k)) l:=by
 intro l
 induction l with
 | zero=>intro _;simp [firstK,sumK]
 | succ l ih=>
  intro h
  rw [sumK,<- ih (by omega),if_neg (by omega)]
  rcases Nat.eq_zero_or_pos l with rfl | hp
  · simp [firstK]
  · rw [firstK_succ _ _ hp,if_neg (by omega),show 15 - l=(15 - (l+1))+1 by omega,Nat.pow_succ,Nat.add_mul (2*_)]
    simp only [Nat.mul_assoc,Nat.mul_comm,Nat.mul_left_comm]
theorem sumK_mono(f:Nat->Nat)(a b:Nat)(h:a<=b):sumK f a<=sumK f b:=by
 induction b with
 | zero=>rw [Nat.le_zero.1 h];exact Nat.le_refl _
 | succ b ih=>
  by_cases e:a=b+1
  · rw [e];exact Nat.le_refl _
  · rw [sumK];have:=ih (by omega);omega
theorem okK_kraft(lens:List UInt8)(h:okK lens=true):kraftK lens<=32768:=by
 unfold okK at h
 simp only [Bool.or_eq_true,Bool.and_eq_true,decide_eq_true_eq]at h
 rcases h with(h | h) | ⟨h,_⟩
 · have:∀ l:List UInt8,wordsK l=0->kraftK l=0:=by
     intro l
     induction l with
     | nil=>intro _;rfl
     | cons c l ih=>
      intro e
      unfold wordsK at e
      rw [List.countP_cons]at e
      have e1 : c = 0 := by by_cases c0 : c = 0; · exact c0
                            · simp [c0]at e
      rw [kraftK_cons,if_pos e1,ih (by unfold wordsK;omega)]
   rw [this lens h];omega
 · omega
 · have:∀ l:List UInt8,wordsK l<=1->kraftK l<=wordsK l*16384:=by
     intro l
     induction l with
     | nil=>intro _;simp [kraftK]
     | cons c l ih=>
      intro e
      unfold wordsK at e ⊢
      rw [List.countP_cons]at e ⊢
      rw [kraftK_cons]
      have ih':=ih (by unfold wordsK;omega)
      unfold wordsK at ih'
      by_cases c0:c=0
      · simp [c0];omega
      · have h0:c.toNat≠0:=fun e=>c0 (UInt8.toNat_inj.1 (by simpa using e))
        have:2 ^ (15 - c.toNat)<=2 ^ 14:=Nat.pow_le_pow_right (by omega) (by omega)
        simp [c0]at *;omega
   have:=this lens (by omega)
   omega
theorem valK_lt(lens:List UInt8)(hk:okK lens=true)(hl:∀ c∈lens,c.toNat<=15)(s:Nat)(h:s<lens.length)(h0:lens[s]≠0):valK lens lens[s].toNat s<2 ^ lens[s].toNat:=by
 have h1:=okK_kraft lens hk
 have h15:=hl _ (List.getElem_mem h)
 have h0':lens[s].toNat≠0:=fun e=>h0 (UInt8.toNat_inj.1 (by simpa using e))
 have hv:=valK_succ lens lens[s].toNat s h
 rw [if_pos rfl]at hv
 have hc:=cntK_take_le lens (s+1) lens[s].toNat
 have hs:=first_sum lens lens[s].toNat h15
 rw [if_neg h0']at hs
 have hm:=sumK_mono (fun k=>cntK lens k*2 ^ (15 - k)) lens[s].toNat 15 h15
 rw [sum_kraft lens hl,<- hs]at hm
 have h2:valK lens lens[s].toNat (s+1)<=firstK lens lens[s].toNat+cntK lens lens[s].toNat:=by unfold valK;omega
 have h3:(2:Nat) ^ lens[s].toNat*2 ^ (15 - lens[s].toNat)=32768:=by rw [<- Nat.pow_add,show lens[s].toNat+(15 - lens[s].toNat)=15 by omega]
 have hp:=Nat.two_pow_pos (15 - lens[s].toNat)
 have h4:(firstK lens lens[s].toNat+cntK lens lens[s].toNat)*2 ^ (15 - lens[s].toNat)<=2 ^ lens[s].toNat*2 ^ (15 - lens[s].toNat):=by omega
 have h5:=Nat.le_of_mul_le_mul_right h4 hp
 omega
structure Tok where
 lit:UInt8
 len:Nat
 dist:Nat
 deriving DecidableEq
instance:Inhabited Tok:=⟨⟨0,0,0⟩⟩
def alikeN(b:List UInt8):Nat->Nat->Nat->Nat
 | _,_,0=>0
 | f,a,n+1=>if a<b.length/\b[f]? = b[a]? then alikeN b (f+1) (a+1) n+1 else 0
def alikeK(b:List UInt8)(f a:Nat):Nat:=alikeN b f a 257
theorem alikeN_le(b:List UInt8):∀ n f a,alikeN b f a n<=n:=by
 intro n
 induction n with
 | zero=>intro f a;exact Nat.le_refl _
 | succ n ih=>
  intro f a
  have:=ih (f+1) (a+1)
  rw [alikeN]
  split <;> omega
theorem alikeN_room(b:List UInt8):∀ n f a,a<=b.length->a+alikeN b f a n<=b.length:=by
 intro n
 induction n with
 | zero=>intro f a h;exact h
 | succ n ih=>
  intro f a h
  rw [alikeN]
  split
  · rename_i h1;have:=ih (f+1) (a+1) (by omega);omega
  · exact h
theorem alikeN_at(b:List UInt8):∀ n f a,a<=b.length->∀ i,i<alikeN b f a n->b[f+i]? = b[a+i]?:=by
 intro n
 induction n with
 | zero=>intro f a _ i hi;simp [alikeN]at hi
 | succ n ih=>
  intro f a h i hi
  rw [alikeN]at hi
  split at hi
  · rename_i h1
    cases i with
    | zero=>simpa using h1.2
    | succ i=>
     have:=ih (f+1) (a+1) (by omega) i (by omega)
     rw [show f+(i+1)=f+1+i by omega,show a+(i+1)=a+1+i by omega];exact this
  · omega
def trip(b:List UInt8)(p:Nat):List UInt8:=(b.drop p).take 3
theorem alikeN_three(b:List UInt8)(n f a:Nat)(hn:3<=n)(hf:f<a):3<=alikeN b f a n↔(a+3<=b.length/\trip b f=trip b a):=by
 have e:∀ p,p+3<=b.length->trip b p=[b.getD p 0,b.getD (p+1) 0,b.getD (p+2) 0]:=by
  intro p hp
  unfold trip
  rw [List.drop_eq_getElem_cons (by omega),List.take_succ_cons,List.drop_eq_getElem_cons (by omega),List.take_succ_cons,List.drop_eq_getElem_cons (by omega),List.take_succ_cons,List.take_zero]
  simp [List.getD_eq_getElem?_getD,List.getElem?_eq_getElem (show p<b.length by omega),List.getElem?_eq_getElem (show p+1<b.length by omega),List.getElem?_eq_getElem (show p+2<b.length by omega)]
 constructor
 · intro h
   by_cases ha:a<=b.length
   · have h1:=alikeN_room b n f a ha
     refine⟨by omega,?_⟩
     rw [e f (by omega),e a (by omega)]
     have i0:=alikeN_at b n f a ha 0 (by omega)
     have i1:=alikeN_at b n f a ha 1 (by omega)
     have i2:=alikeN_at b n f a ha 2 (by omega)
     simp only [Nat.add_zero]at i0
     simp only [List.getD_eq_getElem?_getD,i0,i1,i2]
   · obtain⟨m,rfl⟩:∃ m,n=m+1:=⟨n - 1,by omega⟩
     rw [alikeN,if_neg (by omega)]at h;omega
 · rintro⟨h1,h2⟩
   rw [e f (by omega),e a (by omega)]at h2
   simp only [List.cons.injEq,and_true]at h2
   have g:∀ p,p<b.length->b[p]? = some (b.getD p 0):=fun p hp=>by rw [List.getD_eq_getElem?_getD,List.getElem?_eq_getElem hp];rfl
   obtain⟨m,rfl⟩:∃ m,n=m+3:=⟨n - 3,by omega⟩
   rw [alikeN, if_pos ⟨by omega, by rw [g _ (by omega), g _ (by omega), h2.1]⟩, alikeN, if_pos ⟨by omega, by rw [g _ (by omega), g _ (by omega), h2.2.1]⟩, alikeN, if_pos ⟨by omega, by
    rw [show f + 1 + 1 = f + 2 by omega, show a + 1 + 1 = a + 2 by omega, g _ (by omega), g _ (by omega), h2.2.2]⟩]
   omega
def stepB(b:List UInt8)(at_:Nat)(s:Nat × Nat)(dist:Nat):Nat × Nat:=if s.1<alikeK b (at_ - dist) at_ then(alikeK b (at_ - dist) at_,dist)else s
def bestTo(b:List UInt8)(at_:Nat):Nat->Nat × Nat
 | 0=>(0,0)
 | d+1=>stepB b at_ (bestTo b at_ d) (d+1)
def bestK(b:List UInt8)(at_:Nat):Nat × Nat:=bestTo b at_ (min 4095 at_)
theorem bestTo_le(b:List UInt8)(a:Nat)(ha:a<=b.length):∀ d,(bestTo b a d).1<=257/\a+(bestTo b a d).1<=b.length/\(bestTo b a d).2<=d/\(0<(bestTo b a d).1->0<(bestTo b a d).2):=by
 intro d
 induction d with
 | zero=>simp [bestTo,ha]
 | succ d ih=>
  rw [bestTo,stepB]
  split
  · refine⟨alikeN_le _ _ _ _,alikeN_room _ _ _ _ ha,Nat.le_refl _,fun _=>by simp⟩
  · exact⟨ih.1,ih.2.1,by omega,ih.2.2.2⟩
theorem bestTo_full(b:List UInt8)(a:Nat)(d e:Nat)(h:d<=e)(hn:(bestTo b a d).1=257):bestTo b a e=bestTo b a d:=by
 induction e with
 | zero=>rw [Nat.le_zero.1 h]
 | succ e ih=>
  by_cases h1:d=e+1
  · rw [h1]
  · rw [bestTo,stepB,ih (by omega),if_neg]
    rw [hn];have:=alikeN_le b 257 (a - (e+1)) a;unfold alikeK;omega
def chainIs(s t:Nat × Nat):Prop:=(3<=s.1->t=s)/\(s.1<3->t=(0,0))
theorem chain_skip(b:List UInt8)(a d e:Nat)(t:Nat × Nat)(hde:d<=e)(h:chainIs (bestTo b a d) t)(hs:∀ k,d<k->k<=e->¬3<=alikeK b (a - k) a):chainIs (bestTo b a e) t:=by
 induction e with
 | zero=>rw [Nat.le_zero.1 hde]at h;exact h
 | succ e ih=>
  by_cases h1:d=e+1
  · rw [<- h1];exact h
  · have h2:=ih (by omega) (fun k a b=>hs k a (by omega))
    have h3:=hs (e+1) (by omega) (Nat.le_refl _)
    rw [bestTo,stepB]
    split
    · rename_i h4
      exact⟨fun h5=>absurd h5 h3,fun _=>h2.2 (by omega)⟩
    · exact h2
theorem chain_step(b:List UInt8)(a d:Nat)(t:Nat × Nat)(h:chainIs (bestTo b a d) t)(hs:3<=alikeK b (a - (d+1)) a):chainIs (bestTo b a (d+1)) (stepB b a t (d+1)):=by
 rw [bestTo]
 unfold stepB
 by_cases h3:3<=(bestTo b a d).1
 · rw [h.1 h3]
   split
   · exact⟨fun _=>rfl,fun h=>by simp at h;omega⟩
   · exact⟨fun _=>rfl,fun h=>by omega⟩
 · rw [h.2 (by omega),if_pos (by omega),if_pos (by simp;omega)]
   exact⟨fun _=>rfl,fun h=>by simp at h;omega⟩
def lastK(b:List UInt8)(key:List UInt8):Nat->Option Nat
 | 0=>none
 | n+1=>if n+3<=b.length/\trip b n=key then some n else lastK b key n
theorem lastK_some(b key:List UInt8)(n p:Nat)(h:lastK b key n=some p):p<n/\p+3<=b.length/\trip b p=key/\∀ q,p<q->q<n->q+3<=b.length->trip b q≠key:=by
 induction n with
 | zero=>cases h
 | succ n ih=>
  rw [lastK]at h
  split at h
  · rename_i h1
    cases h
    exact⟨by omega,h1.1,h1.2,fun q a b=>by omega⟩
  · rename_i h1
    obtain⟨i1,i2,i3,i4⟩:=ih h
    refine⟨by omega,i2,i3,fun q a c d=>?_⟩
    by_cases e:q=n
    · subst e;exact fun k=>h1 ⟨d,k⟩
    · exact i4 q a (by omega) d
theorem lastK_none(b key:List UInt8)(n:Nat)(h:lastK b key n=none):∀ q,q<n->q+3<=b.length->trip b q≠key:=by
 induction n with
 | zero=>intro q hq;omega
 | succ n ih=>
  rw [lastK]at h
  split at h
  · cases h
  · rename_i h1
    intro q a d
    by_cases e:q=n
    · subst e;exact fun k=>h1 ⟨d,k⟩
    · exact ih h q (by omega) d
def prevK(b:List UInt8)(p:Nat):Option Nat:=if p+3<=b.length then lastK b (trip b p) p else none
theorem chain_go(b:List UInt8)(a d p:Nat)(t:Nat × Nat)(ha:a+3<=b.length)(hd:d<=a)(hp:lastK b (trip b a) (a - d)=some p)(h:chainIs (bestTo b a d) t) :
  chainIs (bestTo b a (a - p)) (stepB b a t (a - p))/\p<a - d/\prevK b p=lastK b (trip b a) (a - (a - p)):=by
 obtain⟨i1,i2,i3,i4⟩:=lastK_some _ _ _ _ hp
 have h1 := chain_skip b a d (a - p - 1) t (by omega) h (fun k k1 k2 k3 => by
  have := (alikeN_three b 257 (a - k) a (by omega) (by omega)).1 k3
  exact i4 (a - k) (by omega) (by omega) (by omega) this.2)
 have h2:=chain_step b a (a - p - 1) t h1 ((alikeN_three b 257 _ a (by omega) (by omega)).2 ⟨ha,by rw [show a - (a - p - 1+1)=p by omega];exact i3⟩)
 rw [show a - p - 1+1=a - p by omega]at h2
 refine⟨h2,i1,?_⟩
 unfold prevK
 rw [if_pos i2,i3,show a - (a - p)=p by omega]
theorem chain_done(b:List UInt8)(a d:Nat)(t:Nat × Nat)(hd:d<=min 4095 a)(h:chainIs (bestTo b a d) t)
  (hp:(bestTo b a d).1=257\/∀ q,q<a - d->a - q<=4095->trip b q≠trip b a):chainIs (bestK b a) t:=by
 unfold bestK
 rcases hp with hp | hp
 · rw [bestTo_full b a d _ hd hp];exact h
 · exact chain_skip b a d _ t hd h fun k k1 k2 k3=>hp (a - k) (by omega) (by omega) ((alikeN_three b 257 (a - k) a (by omega) (by omega)).1 k3).2
theorem best_short(b:List UInt8)(a:Nat)(ha:b.length<a+3)(h:a<=b.length):(bestK b a).1<3:=by
 have:=(bestTo_le b a h (min 4095 a)).2.1
 unfold bestK;omega
def findGo(b:List UInt8)(a:Nat):List Tok:=
 if h : a < b.length then
  if h3:3<=(bestK b a).1 then⟨0,(bestK b a).1,(bestK b a).2⟩::findGo b (a+(bestK b a).1)
  else⟨b[a],0,0⟩::findGo b (a+1)
 else []
termination_by b.length - a
def findK(b:List UInt8):List Tok:=findGo b 0
theorem findGo_end(b:List UInt8)(a:Nat)(h:b.length<=a):findGo b a=[]:=by rw [findGo,dif_neg (by omega)]
theorem findGo_match(b:List UInt8)(a:Nat)(h:a<b.length)(h3:3<=(bestK b a).1):findGo b a=⟨0,(bestK b a).1,(bestK b a).2⟩::findGo b (a+(bestK b a).1):=by rw [findGo,dif_pos h,dif_pos h3]
theorem findGo_lit(b:List UInt8)(a:Nat)(h:a<b.length)(h3:¬3<=(bestK b a).1):findGo b a=⟨b[a],0,0⟩::findGo b (a+1):=by rw [findGo,dif_pos h,dif_neg h3]
def mayT(t:Tok):Bool:=if t.len=0 then decide (t.dist=0)else decide (t.lit=0) && decide (3<=t.len) && decide (t.len<=257) && decide (1<=t.dist) && decide (t.dist<=4095)
theorem findGo_may(b:List UInt8)(a:Nat):∀ t∈findGo b a,mayT t=true:=by
 induction a using findGo.induct (b:=b)with
 | case1 a h h3 ih=>
  rw [findGo_match b a h h3]
  intro t ht
  rcases List.mem_cons.1 ht with rfl | ht
  · have:=bestTo_le b a (by omega) (min 4095 a)
    unfold bestK at *
    unfold mayT
    rw [if_neg (by simp;omega)]
    simp only [Bool.and_eq_true,decide_eq_true_eq]
    refine⟨⟨⟨⟨trivial,?_⟩,?_⟩,?_⟩,?_⟩ <;> omega
  · exact ih t ht
 | case2 a h h3 ih=>
  rw [findGo_lit b a h h3]
  intro t ht
  rcases List.mem_cons.1 ht with rfl | ht
  · simp [mayT]
  · exact ih t ht
 | case3 a h=>rw [findGo_end b a (by omega)];intro t ht;cases ht
theorem findGo_len(b:List UInt8)(a:Nat):(findGo b a).length<=b.length - a:=by
 induction a using findGo.induct (b:=b)with
 | case1 a h h3 ih=>rw [findGo_match b a h h3,List.length_cons];omega
 | case2 a h h3 ih=>rw [findGo_lit b a h h3,List.length_cons];omega
 | case3 a h=>rw [findGo_end b a (by omega)];simp
def fM(lens:List UInt8)(s l:Nat):Nat:=if cntK (lens.take s) l=0 then 0 else firstK lens l % 65536
def sM(lens:List UInt8)(s l:Nat):List Nat:=(List.range s).filter fun i=>(lens.getD i 0).toNat == l
theorem sM_zero(lens:List UInt8)(l:Nat):sM lens 0 l=[]:=rfl
theorem fM_zero(lens:List UInt8)(l:Nat):fM lens 0 l=0:=by simp [fM,cntK_nil]
theorem sM_succ(lens:List UInt8)(s l:Nat)(h:s<lens.length):sM lens (s+1) l=sM lens s l++if lens[s].toNat=l then [s]else []:=by
 have e:lens.getD s 0=lens[s]:=by rw [List.getD_eq_getElem?_getD,List.getElem?_eq_getElem h];rfl
 unfold sM
 rw [List.range_succ,List.filter_append]
 congr 1
 simp only [List.filter_cons,List.filter_nil,e]
 by_cases h2:lens[s].toNat=l <;> simp [h2]
theorem sM_len(lens:List UInt8)(s l:Nat)(h:s<=lens.length):(sM lens s l).length=cntK (lens.take s) l:=by
 induction s with
 | zero=>simp [sM,cntK_nil]
 | succ s ih=>
  rw [sM_succ lens s l h,List.length_append,ih (by omega),cntK_take _ _ _ h]
  split <;> rfl
theorem fM_succ(lens:List UInt8)(s l:Nat)(h:s<lens.length):fM lens (s+1) l=if lens[s].toNat=l then firstK lens l % 65536 else fM lens s l:=by
 unfold fM
 rw [cntK_take _ _ _ h]
 by_cases h2:lens[s].toNat=l
 · rw [if_pos h2,if_pos h2,if_neg (by omega)]
 · rw [if_neg h2,if_neg h2];rfl
theorem first_code(lens:List UInt8)(s:Nat)(h:s<lens.length)(h0:lens[s]≠0)(hc:cntK (lens.take s) lens[s].toNat=0):(codesK lens)[s]'(by rw [codesK_len];exact h)=firstK lens lens[s].toNat % 65536:=by
 rw [codesK_at lens s h,if_neg h0];unfold valK;rw [hc,Nat.add_zero]
theorem first_stays(lens:List UInt8)(s l:Nat)(hc:cntK (lens.take s) l≠0):fM lens s l=firstK lens l % 65536:=by unfold fM;rw [if_neg hc]
def symL(lens:List UInt8)(s:Nat):Nat:=(lens.getD s 0).toNat
theorem symL_at(lens:List UInt8)(s:Nat)(h:s<lens.length):symL lens s=lens[s].toNat:=by
 unfold symL;rw [List.getD_eq_getElem?_getD,List.getElem?_eq_getElem h];rfl
theorem symL_out(lens:List UInt8)(s:Nat)(h:lens.length<=s):symL lens s=0:=by
 unfold symL;rw [List.getD_eq_getElem?_getD,List.getElem?_eq_none h];rfl
def bitK(lens:List UInt8)(s:Nat):List UInt8:=if symL lens s=0 then []else bitsL ((codesK lens).getD s 0) (symL lens s)
theorem bitK_none(lens:List UInt8)(s:Nat)(h:symL lens s=0):bitK lens s=[]:=if_pos h
theorem bitK_some(lens:List UInt8)(s:Nat)(h:symL lens s≠0):bitK lens s=bitsL ((codesK lens).getD s 0) (symL lens s):=if_neg h
theorem bitK_len(lens:List UInt8)(s:Nat)(h:∀ c∈lens,c.toNat<=15):(bitK lens s).length<=15:=by
 unfold bitK
 split
 · simp
 · rename_i h2
   rw [bitsL_len]
   by_cases hs:s<lens.length
   · rw [symL_at lens s hs];exact h _ (List.getElem_mem hs)
   · rw [symL_out lens s (by omega)]at h2;exact absurd rfl h2
theorem codesK_get(lens:List UInt8)(s:Nat)(h:s<lens.length):(codesK lens).getD s 0=(codesK lens)[s]'(by rw [codesK_len];exact h):=by
 rw [List.getD_eq_getElem?_getD,List.getElem?_eq_getElem];rfl
theorem code_lt(lens:List UInt8)(hk:okK lens=true)(hl:∀ c∈lens,c.toNat<=15)(s:Nat)(h:s<lens.length)(h0:lens[s]≠0):(codesK lens)[s]'(by rw [codesK_len];exact h)<2 ^ lens[s].toNat:=by
 rw [codesK_at lens s h,if_neg h0]
 exact Nat.lt_of_le_of_lt (Nat.mod_le _ _) (valK_lt lens hk hl s h h0)
theorem code16(lens:List UInt8)(s:Nat)(h:s<(codesK lens).length):(codesK lens)[s]<65536:=by
 rw [codesK_at lens s (by rw [codesK_len]at h;exact h)]
 split
 · omega
 · exact Nat.mod_lt _ (by omega)
def zrun:List UInt8->Nat->Nat
 | [],_=>0
 | _::_,0=>0
 | c::l,k+1=>if c=0 then zrun l k+1 else 0
theorem zrun_le(l:List UInt8):∀ k,zrun l k<=k/\zrun l k<=l.length:=by
 induction l with
 | nil=>intro k;simp [zrun]
 | cons c l ih=>
  intro k
  cases k with
  | zero=>simp [zrun]
  | succ k=>
   rw [zrun]
   have:=ih k
   split
   · rw [List.length_cons];omega
   · omega
theorem zrun_zero(l:List UInt8):zrun l 0=0:=by cases l <;> rfl
def wrGo:List UInt8->List UInt8
 | []=>[]
 | c::r=>if c=0 then bitsL 0 4++(bitsL (zrun r 63) 6++wrGo (r.drop (zrun r 63)))else bitsL c.toNat 4++wrGo r
termination_by l=>l.length
decreasing_by
 · rw [List.length_drop,List.length_cons];omega
 · rw [List.length_cons];omega
theorem wrGo_nil:wrGo []=[]:=by rw [wrGo]
theorem wrGo_zero(r:List UInt8)(c:UInt8)(h:c=0):wrGo (c::r)=bitsL 0 4++(bitsL (zrun r 63) 6++wrGo (r.drop (zrun r 63))):=by rw [wrGo,if_pos h]
theorem wrGo_one(r:List UInt8)(c:UInt8)(h:c≠0):wrGo (c::r)=bitsL c.toNat 4++wrGo r:=by rw [wrGo,if_neg h]
theorem wrGo_len:∀ (n:Nat) (l:List UInt8),l.length<=n->(wrGo l).length<=10*l.length:=by
 intro n
 induction n with
 | zero=>intro l h;rw [List.eq_nil_of_length_eq_zero (Nat.le_zero.1 h),wrGo_nil];simp
 | succ n ih=>
  intro l h
  cases l with
  | nil=>rw [wrGo_nil];simp
  | cons c r=>
   rw [List.length_cons]at h
   by_cases hc:c=0
   · rw [wrGo_zero r c hc,List.length_append,List.length_append,bitsL_len,bitsL_len]
     have h1:=ih (r.drop (zrun r 63)) (by rw [List.length_drop];omega)
     have h2:=(zrun_le r 63).2
     rw [List.length_drop]at h1
     rw [List.length_cons];omega
   · rw [wrGo_one r c hc,List.length_append,bitsL_len]
     have h1:=ih r (by omega)
     rw [List.length_cons];omega
theorem zrun_on(l:List UInt8)(i k:Nat)(h:i<l.length)(h0:l[i]=0):zrun (l.drop i) (k+1)=zrun (l.drop (i+1)) k+1:=by
 rw [List.drop_eq_getElem_cons h,zrun,if_pos h0]
theorem zrun_off(l:List UInt8)(i k:Nat)(h:i<l.length)(h0:l[i]≠0):zrun (l.drop i) k=0:=by
 rw [List.drop_eq_getElem_cons h]
 cases k with
 | zero=>rfl
 | succ k=>rw [zrun,if_neg h0]
theorem zrun_end(l:List UInt8)(i k:Nat)(h:l.length<=i):zrun (l.drop i) k=0:=by rw [List.drop_eq_nil_of_le h];rfl
def clsK(v:Nat):Nat:=Nat.log2 v
def rstK(v:Nat):Nat:=v - 2 ^ Nat.log2 v
theorem cls_le(v:Nat)(h:1<=v):2 ^ clsK v<=v:=Nat.log2_self_le (by omega)
theorem cls_lt(v:Nat):v<2 ^ (clsK v+1):=Nat.lt_log2_self
theorem rst_lt(v:Nat)(h:1<=v):rstK v<2 ^ clsK v:=by
 have h1:=cls_le v h
 have h2:=cls_lt v
 unfold rstK clsK at *
 rw [Nat.pow_succ]at h2;omega
theorem cls_small(v k:Nat)(h:1<=v)(h2:v<2 ^ k):clsK v<k:=by
 have h1:=cls_le v h
 exact(Nat.pow_lt_pow_iff_right (by omega)).1 (Nat.lt_of_le_of_lt h1 h2)
structure Pce where
 sym:Nat
 len:Nat
 dist:Nat
 far:Nat
 deriving DecidableEq
def pieceK(t:Tok):Pce:=if t.len=0 then⟨t.lit.toNat,0,0,0⟩else⟨257+clsK (t.len - 2),rstK (t.len - 2),clsK t.dist,rstK t.dist⟩
theorem mayT_len(t:Tok)(h:mayT t=true)(h0:t.len≠0):t.lit=0/\3<=t.len/\t.len<=257/\1<=t.dist/\t.dist<=4095:=by
 unfold mayT at h
 rw [if_neg h0]at h
 simp only [Bool.and_eq_true,decide_eq_true_eq]at h
 exact⟨h.1.1.1.1,h.1.1.1.2,h.1.1.2,h.1.2,h.2⟩
theorem piece_bounds(t:Tok)(h:mayT t=true):(pieceK t).sym<265/\(pieceK t).dist<12/\(pieceK t).len<256/\(pieceK t).far<4096/\((pieceK t).sym<256↔t.len=0)/\(t.len≠0->257<=(pieceK t).sym):=by
 unfold pieceK
 by_cases h0:t.len=0
 · rw [if_pos h0]
   have:=t.lit.toNat_lt
   exact⟨by show t.lit.toNat<265;omega,by show 0<12;omega,by show 0<256;omega,by show 0<4096;omega,by show t.lit.toNat<256↔_;omega,fun h=>absurd h0 h⟩
 · rw [if_neg h0]
   obtain⟨_,h1,h2,h3,h4⟩:=mayT_len t h h0
   have c1:=cls_small (t.len - 2) 8 (by omega) (by have:(2:Nat) ^ 8=256:=rfl;omega)
   have c2:=cls_small t.dist 12 h3 (by have:(2:Nat) ^ 12=4096:=rfl;omega)
   have r1:rstK (t.len - 2)<=t.len - 2:=Nat.sub_le _ _
   have r2:rstK t.dist<=t.dist:=Nat.sub_le _ _
   exact⟨by show 257+clsK (t.len - 2)<265;omega,c2,by show rstK _<256;omega,by show rstK _<4096;omega,by show 257+clsK (t.len - 2)<256↔_;omega,fun _=>by show 257<=257+_;omega⟩
def symsN(l:List Tok)(k:Nat):Nat:=l.countP fun t=>(pieceK t).sym == k
def farsN(l:List Tok)(k:Nat):Nat:=l.countP fun t=>decide (t.len≠0) && ((pieceK t).dist == k)
theorem symsN_snoc(l:List Tok)(t:Tok)(k:Nat):symsN (l++[t]) k=symsN l k+if(pieceK t).sym=k then 1 else 0:=by simp [symsN,List.countP_append,List.countP_cons]
theorem farsN_snoc(l:List Tok)(t:Tok)(k:Nat):farsN (l++[t]) k=farsN l k+if t.len≠0/\(pieceK t).dist=k then 1 else 0:=by simp [farsN,List.countP_append,List.countP_cons]
theorem symsN_le(l:List Tok)(k:Nat):symsN l k<=l.length:=List.countP_le_length
theorem farsN_le(l:List Tok)(k:Nat):farsN l k<=l.length:=List.countP_le_length
def symsL(l:List Tok):List Nat:=(List.range 265).map fun k=>symsN l k+if k=256 then 1 else 0
def farsL(l:List Tok):List Nat:=(List.range 12).map (farsN l)
def wrK(a:List UInt8):List UInt8:=if okK a then wrGo a else []
def ptK(a:List UInt8)(s:Nat):List UInt8:=if okK a then bitK a s else []
def tokK(a b:List UInt8)(t:Tok):List UInt8:=
 ptK a (pieceK t).sym++if t.len=0 then []else bitsL (pieceK t).len ((pieceK t).sym - 257)++(ptK b (pieceK t).dist++bitsL (pieceK t).far (pieceK t).dist)
def toksK(a b:List UInt8)(l:List Tok):List UInt8:=l.flatMap (tokK a b)
def allK(a b:List UInt8)(l:List Tok):List UInt8:=((wrK a++wrK b)++toksK a b l)++ptK a 256
theorem toksK_snoc(a b:List UInt8)(l:List Tok)(t:Tok):toksK a b (l++[t])=toksK a b l++tokK a b t:=by simp [toksK]
theorem wrK_len(a:List UInt8):(wrK a).length<=10*a.length:=by
 unfold wrK
 split
 · exact wrGo_len a.length a (Nat.le_refl _)
 · simp
theorem tokK_len(a b:List UInt8)(t:Tok)(hm:mayT t=true)(ha:∀ c∈a,c.toNat<=15)(hb:∀ c∈b,c.toNat<=15):(tokK a b t).length<=50:=by
 have pl:∀ (x:List UInt8) s,(∀ c∈x,c.toNat<=15)->(ptK x s).length<=15:=fun x s h=>by
  unfold ptK
  split
  · exact bitK_len x s h
  · simp
 have h1:=pl a (pieceK t).sym ha
 have h2:=pl b (pieceK t).dist hb
 obtain⟨p1,p2,p3,p4,p5,p6⟩:=piece_bounds t hm
 unfold tokK
 split
 · simp;omega
 · simp only [List.length_append,bitsL_len];omega
theorem toksK_len(a b:List UInt8)(ha:∀ c∈a,c.toNat<=15)(hb:∀ c∈b,c.toNat<=15)(l:List Tok)(hm:∀ t∈l,mayT t=true):(toksK a b l).length<=50*l.length:=by
 induction l with
 | nil=>simp [toksK]
 | cons t l ih=>
  have h1:=tokK_len a b t (hm t (by simp)) ha hb
  have h2:=ih (fun t h=>hm t (by simp [h]))
  unfold toksK at *
  rw [List.flatMap_cons,List.length_append,List.length_cons];omega
theorem first_up(lens:List UInt8)(l:Nat)(h1:1<=l)(h2:l<=14):firstK lens (l+1)*2 ^ (15 - (l+1))=(firstK lens l+cntK lens l)*2 ^ (15 - l):=by
 rw [firstK_succ lens l h1,show 15 - l=(15 - (l+1))+1 by omega,Nat.pow_succ,Nat.mul_comm 2 (firstK lens l+cntK lens l),Nat.mul_assoc,Nat.mul_comm 2]
theorem first_mono(lens:List UInt8)(l:Nat)(h1:1<=l):∀ d,l+1+d<=15->(firstK lens l+cntK lens l)*2 ^ (15 - l)<=firstK lens (l+1+d)*2 ^ (15 - (l+1+d)):=by
 intro d
 induction d with
 | zero=>intro h;rw [Nat.add_zero,first_up lens l h1 (by omega)];exact Nat.le_refl _
 | succ d ih=>
  intro h
  refine Nat.le_trans (ih (by omega)) ?_
  rw [show l+1+(d+1)=(l+1+d)+1 by omega,first_up lens (l+1+d) (by omega) (by omega)]
  exact Nat.mul_le_mul_right _ (by omega)
theorem one_len(lens:List UInt8)(x l m:Nat)(h1:1<=l)(h2:l<m)(h3:m<=15)(h4:x / 2 ^ (15 - l)<firstK lens l+cntK lens l)(h5:firstK lens m<=x / 2 ^ (15 - m)):False:=by
 have e:m=l+1+(m - (l+1)):=by omega
 have h6:=first_mono lens l h1 (m - (l+1)) (by omega)
 rw [<- e]at h6
 have h7:=(Nat.div_lt_iff_lt_mul (Nat.two_pow_pos _)).1 h4
 have h8:=(Nat.le_div_iff_mul_le (Nat.two_pow_pos _)).1 h5
 omega
def hitK(lens:List UInt8)(x there s:Nat):Bool:=
 decide (0<symL lens s) && decide (symL lens s<=there) && decide (x / 2 ^ (15 - symL lens s)=valK lens (symL lens s) s)
def hitS(lens:List UInt8)(x there:Nat):Option Nat:=(List.range lens.length).find? (hitK lens x there)
theorem hitK_iff(lens:List UInt8)(x there s:Nat):hitK lens x there s=true↔0<symL lens s/\symL lens s<=there/\x / 2 ^ (15 - symL lens s)=valK lens (symL lens s) s:=by
 unfold hitK
 simp only [Bool.and_eq_true,decide_eq_true_eq]
 exact⟨fun h=>⟨h.1.1,h.1.2,h.2⟩,fun h=>⟨⟨h.1,h.2.1⟩,h.2.2⟩⟩
theorem sM_at(lens:List UInt8)(l:Nat):∀ n,n<=lens.length->∀ k,k<cntK (lens.take n) l->∃ s,s<n/\(sM lens n l)[k]? = some s/\symL lens s=l/\cntK (lens.take s) l=k:=by
 intro n
 induction n with
 | zero=>intro _ k h;simp [cntK]at h
 | succ n ih=>
  intro hn k h
  have hlen:=sM_len lens n l (by omega)
  rw [cntK_take _ _ _ (show n<lens.length by omega)]at h
  rw [sM_succ lens n l (by omega)]
  by_cases hk:k<cntK (lens.take n) l
  · obtain⟨s,h1,h2,h3,h4⟩:=ih (by omega) k hk
    exact⟨s,by omega,by rw [List.getElem?_append_left (by omega)];exact h2,h3,h4⟩
  · by_cases h2:lens[n].toNat=l
    · rw [if_pos h2]at h
      refine⟨n,by omega,?_,by rw [symL_at lens n (by omega)];exact h2,by omega⟩
      rw [if_pos h2,List.getElem?_append_right (by omega),hlen,show k - cntK (lens.take n) l=0 by omega]
      rfl
    · rw [if_neg h2]at h;omega
theorem cnt_below(lens:List UInt8)(s l:Nat)(hs:s<lens.length)(h:symL lens s=l):cntK (lens.take s) l<cntK lens l:=by
 have h1:=cntK_take_le lens (s+1) l
 rw [cntK_take _ _ _ hs,if_pos (by rw [<- symL_at lens s hs];exact h)]at h1
 omega
theorem cnt_inj(lens:List UInt8)(l s t:Nat)(hs:s<lens.length)(ht:t<lens.length)(h1:symL lens s=l)(h2:symL lens t=l)(h:cntK (lens.take s) l=cntK (lens.take t) l):s=t:=by
 have key:∀ a b,a<b->b<lens.length->symL lens a=l->cntK (lens.take a) l<cntK (lens.take b) l:=by
  intro a b hab hb ha
  have e:(lens.take b).take (a+1)=lens.take (a+1):=by rw [List.take_take,Nat.min_eq_left (by omega)]
  have h3:=cntK_take_le (lens.take b) (a+1) l
  rw [e,cntK_take _ _ _ (show a<lens.length by omega),if_pos (by rw [<- symL_at lens a (by omega)];exact ha)]at h3
  omega
 rcases Nat.lt_trichotomy s t with h3 | h3 | h3
 · have:=key s t h3 ht h1;omega
 · exact h3
 · have:=key t s h3 hs h2;omega
theorem hit_at(lens:List UInt8)(x there l k:Nat)(h1:1<=l)(h2:l<=there)(h3:there<=15)(hk:k<cntK lens l)(hx:x / 2 ^ (15 - l)=firstK lens l+k) :
  ∃ s,s<lens.length/\(sM lens lens.length l)[k]? = some s/\hitS lens x there=some s/\symL lens s=l:=by
 obtain⟨s,hs,hm,hl,hc⟩:=sM_at lens l lens.length (Nat.le_refl _) k (by rw [List.take_length];exact hk)
 refine⟨s,hs,hm,?_,hl⟩
 have hp:hitK lens x there s=true:=(hitK_iff _ _ _ _).2 ⟨by omega,by omega,by rw [hl,hx];unfold valK;rw [hc]⟩
 have hu:∀ t,t<lens.length->hitK lens x there t=true->t=s:=by
  intro t ht h
  obtain⟨t1,t2,t3⟩:=(hitK_iff _ _ _ _).1 h
  have hb:=cnt_below lens t _ ht rfl
  have hlt:x / 2 ^ (15 - symL lens t)<firstK lens (symL lens t)+cntK lens (symL lens t):=by rw [t3];unfold valK;omega
  have hge:firstK lens (symL lens t)<=x / 2 ^ (15 - symL lens t):=by rw [t3];unfold valK;omega
  rcases Nat.lt_trichotomy (symL lens t) l with h4 | h4 | h4
  · exact(one_len lens x _ l t1 h4 (by omega) hlt (by omega)).elim
  · refine cnt_inj lens l t s ht hs h4 hl ?_
    rw [h4]at t3
    unfold valK at t3
    omega
  · exact(one_len lens x l _ h1 h4 (by omega) (by omega) hge).elim
 unfold hitS
 cases hf:(List.range lens.length).find? (hitK lens x there)with
 | none=>exact absurd hp (by simpa using List.find?_eq_none.1 hf s (by simpa using hs))
 | some t=>
  have h4:=List.find?_some hf
  have h5:=List.mem_of_find?_eq_some hf
  rw [hu t (by simpa using h5) h4]
def partK(lens:List UInt8)(y l:Nat):Bool:=(List.range lens.length).any fun s=>decide (l<symL lens s) && decide (valK lens (symL lens s) s / 2 ^ (symL lens s - l)=y)
def leN:List UInt8->Nat
 | []=>0
 | b::l=>b.toNat+256*leN l
theorem leN_or(x b k:Nat)(h:x<2 ^ k):x ||| (b*2 ^ k)=x+b*2 ^ k:=by
 have:=Nat.two_pow_add_eq_or_of_lt h b
 rw [Nat.or_comm,Nat.mul_comm b,<- this,Nat.add_comm]
def numGo(i:Nat)(x:Nat):List UInt8->Nat × Nat × Nat
 | []=>(0,0,1)
 | c::t=>if(i=9/\¬c.toNat=1)\/(0<i/\c.toNat=0)then(0,0,2)else if c.toNat<128 then(x+c.toNat % 128*128 ^ i,i+1,0)else numGo (i+1) (x+c.toNat % 128*128 ^ i) t
def numL(l:List UInt8):Nat × Nat × Nat:=numGo 0 0 l
theorem numGo_ok(l:List UInt8):∀ (i x:Nat),i<=9->x<128 ^ i->(numGo i x l).1<18446744073709551616/\((numGo i x l).2.2=0->i<(numGo i x l).2.1/\(numGo i x l).2.1<=i+l.length/\(numGo i x l).2.1<=10)/\(¬(numGo i x l).2.2=0->(numGo i x l).1=0/\(numGo i x l).2.1=0/\(numGo i x l).2.2<=2):=by
 induction l with
 | nil=>intro i x hi hx;simp [numGo]
 | cons c t ih=>
  intro i x hi hx
  unfold numGo
  split
  · simp
  · rename_i hno
    have hm:c.toNat % 128<128:=Nat.mod_lt _ (by omega)
    have hx2:x+c.toNat % 128*128 ^ i<128 ^ (i+1):=by
     have:c.toNat % 128*128 ^ i<=127*128 ^ i:=Nat.mul_le_mul_right _ (by omega)
     rw [Nat.pow_succ];omega
    by_cases h9:i=9
    · have hc:c.toNat=1:=by omega
      subst h9
      rw [if_pos (by omega),hc]
      have e9:(128:Nat) ^ 9=9223372036854775808:=by decide
      rw [e9]at hx
      refine⟨?_,?_,?_⟩
      · have e1:x+1 % 128*128 ^ 9=x+9223372036854775808:=by rw [e9]
        show x+1 % 128*128 ^ 9<_
        rw [e1]
        clear hx2 hm e9 e1 hno ih
        omega
      · intro _;show 9<9+1/\9+1<=9+(c::t).length/\9+1<=10;simp only [List.length_cons];omega
      · intro h;exact absurd rfl h
    · have hp:(128:Nat) ^ (i+1)<=128 ^ 9:=Nat.pow_le_pow_right (by omega) (by omega)
      have e9:(128:Nat) ^ 9=9223372036854775808:=by decide
      split
      · refine⟨?_,?_,?_⟩
        · show x+c.toNat % 128*128 ^ i<_
          omega
        · intro _;simp;omega
        · intro h;simp at h
      · obtain⟨h1,h2,h3⟩:=ih (i+1) _ (by omega) hx2
        refine⟨h1,fun h=>?_,h3⟩
        obtain⟨a,b,c⟩:=h2 h
        refine⟨by omega,?_,c⟩
        simp only [List.length_cons];omega
theorem numL_lt(l:List UInt8):(numL l).1<18446744073709551616:=(numGo_ok l 0 0 (by omega) (by simp)).1
theorem numL_ok(l:List UInt8)(h:(numL l).2.2=0):0<(numL l).2.1/\(numL l).2.1<=l.length/\(numL l).2.1<=10:=by
 have:=(numGo_ok l 0 0 (by omega) (by simp)).2.1 h
 rw [Nat.zero_add]at this
 exact this
def limL(most:Nat)(l:List UInt8):Nat × Nat × Nat:=
 if(numL l).2.2=0 then(if most<(numL l).1 then(0,0,6)else numL l)else(0,0,(numL l).2.2)
theorem limL_ok(most:Nat)(l:List UInt8)(h:(limL most l).2.2=0):0<(limL most l).2.1/\(limL most l).2.1<=l.length/\(limL most l).1<=most:=by
 unfold limL at *
 split at h
 · rename_i h0
   split at h
   · simp at h
   · rename_i h1
     rw [if_pos h0,if_neg h1]
     have:=numL_ok l h0
     omega
 · rename_i h0;exact absurd h h0
structure Cs where
 at_:Nat
 er:Nat
def Cs.step(s:Cs)(r:Nat × Nat × Nat):Cs:=if s.er=0 then(if r.2.2=0 then⟨s.at_+r.2.1,0⟩else⟨s.at_,r.2.2⟩)else s
def Cs.val(s:Cs)(r:Nat × Nat × Nat):Nat:=if s.er=0/\r.2.2=0 then r.1 else 0
def Cs.num(s:Cs)(l:List UInt8):Nat × Cs:=(s.val (numL (l.drop s.at_)),s.step (numL (l.drop s.at_)))
def Cs.int(s:Cs)(l:List UInt8)(most:Nat):Nat × Cs:=(s.val (limL most (l.drop s.at_)),s.step (limL most (l.drop s.at_)))
def Cs.fail(s:Cs)(e:Nat):Cs:=if s.er=0 then⟨s.at_,e⟩else s
def Cs.fin(s:Cs)(l:List UInt8):Cs:=if s.er=0/\s.at_<l.length then⟨s.at_,2⟩else s
def Cs.take(s:Cs)(l:List UInt8)(k:Nat):List UInt8 × Cs:=
 if s.er=0 then(if l.length<s.at_+k then([],⟨s.at_,1⟩)else((l.drop s.at_).take k,⟨s.at_+k,0⟩))else([],s)
def Cs.byte(s:Cs)(l:List UInt8):Nat × Cs:=((((s.take l 1).1).getD 0 0).toNat,(s.take l 1).2)
def Cs.fixed(s:Cs)(l:List UInt8)(k:Nat):Nat × Cs:=(leN (s.take l k).1,(s.take l k).2)
def txtL(most:Nat)(l:List UInt8):List UInt8 × Nat × Nat:=
 if(limL most l).2.2=0 then(if l.length<(limL most l).2.1+(limL most l).1 then([],0,1)else((l.drop (limL most l).2.1).take (limL most l).1,(limL most l).2.1+(limL most l).1,0))else([],0,(limL most l).2.2)
def Cs.text(s:Cs)(l:List UInt8)(most:Nat):List UInt8 × Cs:=
 (if s.er=0 then(txtL most (l.drop s.at_)).1 else [],s.step (0,(txtL most (l.drop s.at_)).2))
theorem txtL_ok(most:Nat)(l:List UInt8)(h:(txtL most l).2.2=0):0<(txtL most l).2.1/\(txtL most l).2.1<=l.length/\(txtL most l).1.length<=most:=by
 unfold txtL at *
 split at h
 · rename_i h0
   split at h
   · simp at h
   · rename_i h1
     rw [if_pos h0,if_neg h1]
     have:=limL_ok most l h0
     refine⟨?_,?_,?_⟩
     · show 0<(limL most l).2.1+(limL most l).1;omega
     · show(limL most l).2.1+(limL most l).1<=_;omega
     · show(List.take _ _).length<=_
       rw [List.length_take];omega
 · rename_i h0;exact absurd h h0
theorem Cs.step_le(s:Cs)(r:Nat × Nat × Nat)(n:Nat)(h:s.at_<=n)(h2:r.2.2=0->r.2.1<=n - s.at_):(s.step r).at_<=n:=by
 unfold Cs.step
 split
 · split
   · rename_i h3;have:=h2 h3;show s.at_+_<=n;omega
   · exact h
 · exact h
theorem Cs.num_le(s:Cs)(l:List UInt8)(h:s.at_<=l.length):(s.num l).2.at_<=l.length:=
 s.step_le _ _ h fun e=>by have:=numL_ok _ e;rw [List.length_drop]at this;omega
theorem Cs.int_le(s:Cs)(l:List UInt8)(most:Nat)(h:s.at_<=l.length):(s.int l most).2.at_<=l.length:=
 s.step_le _ _ h fun e=>by have:=limL_ok _ _ e;rw [List.length_drop]at this;omega
theorem Cs.text_le(s:Cs)(l:List UInt8)(most:Nat)(h:s.at_<=l.length):(s.text l most).2.at_<=l.length:=
 s.step_le _ _ h fun e=>by have h2:=(txtL_ok _ _ e).2.1;rw [List.length_drop]at h2;exact h2
theorem Cs.take_le(s:Cs)(l:List UInt8)(k:Nat)(h:s.at_<=l.length):(s.take l k).2.at_<=l.length:=by
 unfold Cs.take
 split
 · split
   · exact h
   · show s.at_+k<=_;omega
 · exact h
def bitR(l:List UInt8)(i:Nat):Nat:=(l.getD (i / 8) 0).toNat / 2 ^ (7 - i % 8) % 2
theorem bitR_two(l:List UInt8)(i:Nat):bitR l i=0\/bitR l i=1:=by unfold bitR;omega
def rbits(l:List UInt8):List UInt8:=(List.range (8*l.length)).map fun i=>UInt8.ofNat (bitR l i)
def numAt(l:List UInt8)(a:Nat):Nat->Nat
 | 0=>0
 | n+1=>2*numAt l a n+bitR l (a+n)
theorem numAt_zero(l:List UInt8)(a n:Nat):numAt l a n=0↔∀ i,i<n->bitR l (a+i)=0:=by
 induction n with
 | zero=>simp [numAt]
 | succ n ih=>
  rw [numAt]
  constructor
  · intro h i hi
    rcases Nat.lt_or_ge i n with h1 | h1
    · exact ih.1 (by omega) i h1
    · have e:i=n:=by omega
      subst e;omega
  · intro h
    have h1:=ih.2 fun i hi=>h i (by omega)
    have h2:=h n (by omega)
    omega
def unGo(l:List UInt8):Nat->Nat->Option Nat
 | 0,_=>none
 | f+1,i=>if bitR l i=1 then some i else unGo l f (i+1)
def unaR(l:List UInt8)(a:Nat):Nat × Nat × Nat:=
 match unGo l (8*l.length - a) a with
 | some i=>(i - a,i+1,0)
 | none=>(0,a,1)
def efGo(bound w:Nat)(r:List UInt8):Nat->Nat->Nat->Nat->Nat->List Nat->List Nat × Nat × Nat
 | 0,_,a,_,_,ids=>(ids,a,0)
 | k+1,i,a,high,lo,ids=>
  if (unaR r a).2.2 = 0 then
   (if (high + (unaR r a).1) * 2 ^ w + numAt r (w * i) w < lo then ([], 0, 2)
    else if bound ≤ (high + (unaR r a).1) * 2 ^ w + numAt r (w * i) w then ([], 0, 8)
    else efGo bound w r k (i + 1) (unaR r a).2.1 (high + (unaR r a).1) ((high + (unaR r a).1) * 2 ^ w + numAt r (w * i) w + 1) (ids ++ [(high + (unaR r a).1) * 2 ^ w + numAt r (w * i) w]))
  else([],0,1)
def padB(r:List UInt8)(a:Nat):Bool:=decide (numAt r a ((8 - a % 8) % 8)=0)
def efR(bound:Nat)(b:List UInt8):List Nat × Nat × Nat:=
 if (limL bound b).2.2 = 0 then
  (if (limL bound b).1 = 0 then ([], (limL bound b).2.1, 0)
   else if 8 * (b.drop (limL bound b).2.1).length < (limL bound b).1 * Nat.log2 (bound / (limL bound b).1) then ([], 0, 1)
   else if (efGo bound (Nat.log2 (bound / (limL bound b).1)) (b.drop (limL bound b).2.1) (limL bound b).1 0 ((limL bound b).1 * Nat.log2 (bound / (limL bound b).1)) 0 0 []).2.2 = 0 then
    (if padB (b.drop (limL bound b).2.1) (efGo bound (Nat.log2 (bound / (limL bound b).1)) (b.drop (limL bound b).2.1) (limL bound b).1 0 ((limL bound b).1 * Nat.log2 (bound / (limL bound b).1)) 0 0 []).2.1 then
     ((efGo bound (Nat.log2 (bound / (limL bound b).1)) (b.drop (limL bound b).2.1) (limL bound b).1 0 ((limL bound b).1 * Nat.log2 (bound / (limL bound b).1)) 0 0 []).1,
      (limL bound b).2.1 + ((efGo bound (Nat.log2 (bound / (limL bound b).1)) (b.drop (limL bound b).2.1) (limL bound b).1 0 ((limL bound b).1 * Nat.log2 (bound / (limL bound b).1)) 0 0 []).2.1 + 7) / 8, 0)
     else ([], 0, 2))
   else ([], 0, (efGo bound (Nat.log2 (bound / (limL bound b).1)) (b.drop (limL bound b).2.1) (limL bound b).1 0 ((limL bound b).1 * Nat.log2 (bound / (limL bound b).1)) 0 0 []).2.2))
 else([],0,(limL bound b).2.2)
def okCut(l:List UInt8):Bool:=decide (4<=l.length) && decide (putB (l.take (l.length - 4))=l)
def cutB(l:List UInt8):List UInt8:=if okCut l then l.take (l.length - 4)else []
def errCut(l:List UInt8):Nat:=if okCut l then 0 else if l.length<4 then 1 else 5
theorem okCut_put(q:List UInt8):okCut (putB q)=true:=by
 have h:=putB_len q
 have:(putB q).take ((putB q).length - 4)=q:=by rw [h];unfold putB;simp
 unfold okCut
 rw [this]
 simp [h]
def markV(l:List UInt8):Nat × Nat:=
 if l.length<=4 then(0,1)else if l.take 4=[70,73,82,75]then(if 1<=(l.getD 4 0).toNat/\(l.getD 4 0).toNat<=3 then((l.getD 4 0).toNat,0)else(0,4))else(0,3)
def countB(l:List UInt8):Bool:=okCut l && decide (markV l=(3,0))
def mul8(a b:UInt8):UInt8:=UInt8.ofNat (mulN a.toNat b.toNat)
def inv8(a:UInt8):UInt8:=UInt8.ofNat (if a.toNat=0 then 0 else invN a.toNat)
def xsum:List UInt8->UInt8
 | []=>0
 | x::l=>x ^^^ xsum l
def xs:Nat->(Nat->UInt8)->UInt8
 | 0,_=>0
 | n+1,f=>xs n f ^^^ f n
def pivGo(A:Nat->Nat->UInt8)(c:Nat):Nat->Nat->Nat
 | 0,p=>p
 | f+1,p=>if A p c=0 then pivGo A c f (p+1)else p
def piv(A:Nat->Nat->UInt8)(n i:Nat):Nat:=pivGo A i (n - i) i
def swapF(A:Nat->Nat->UInt8)(i p:Nat):Nat->Nat->UInt8:=fun r j=>A (if r=i then p else if r=p then i else r) j
def scaleF(A:Nat->Nat->UInt8)(i:Nat)(c:UInt8):Nat->Nat->UInt8:=fun r j=>if r=i then mul8 c (A i j)else A r j
def elimF(A:Nat->Nat->UInt8)(i K:Nat):Nat->Nat->UInt8:=fun r j=>if r<K/\r≠i then A r j ^^^ mul8 (A r i) (A i j)else A r j
def scaledF(A:Nat->Nat->UInt8)(n i:Nat):Nat->Nat->UInt8:=scaleF (swapF A i (piv A n i)) i (inv8 (A (piv A n i) i))
def stepF(A:Nat->Nat->UInt8)(n i:Nat):Nat->Nat->UInt8:=elimF (scaledF A n i) i n
def stG(A:Nat->Nat->UInt8)(n:Nat):Nat->Nat->Nat->UInt8
 | 0=>A
 | i+1=>stepF (stG A n i) n i
structure HasPiv (A:Nat->Nat->UInt8) (n i:Nat):Prop where
 ge:i<=piv A n i
 lt:piv A n i<n
 ne:A (piv A n i) i≠0
 zero:∀ q,i<=q->q<piv A n i->A q i=0
def dotF(A:Nat->Nat->UInt8)(n r:Nat)(v:Nat->UInt8):UInt8:=xs n fun j=>mul8 (A r j) (v j)
def UnitA(A:Nat->Nat->UInt8)(n i:Nat):Prop:=∀ c,c<i->∀ r,r<n->A r c=if r=c then 1 else 0
def Full(A:Nat->Nat->UInt8)(n:Nat):Prop:=∀ v:Nat->UInt8,(∀ r,r<n->dotF A n r v=0)->∀ j,j<n->v j=0
def augF(M:Nat->Nat->UInt8)(n:Nat):Nat->Nat->UInt8:=fun r j=>if j<n then M r j else if j - n=r then 1 else 0
def wholeU(k t j:Nat):UInt8:=if t<k then(if t=j then 1 else 0)else inv8 (UInt8.ofNat (t ^^^ j))
def preL(C:Nat)(f:Nat->Nat->UInt8)(n:Nat):List UInt8:=(List.range n).map fun t=>f (t / C) (t % C)
def rowOf(C:Nat)(f:Nat->Nat->UInt8)(i:Nat):List UInt8:=(List.range C).map (f i)
theorem rowOf_len(C:Nat)(f:Nat->Nat->UInt8)(i:Nat):(rowOf C f i).length=C:=by simp [rowOf]
def putRow(f:Nat->Nat->UInt8)(i:Nat)(g:Nat->UInt8):Nat->Nat->UInt8:=fun r j=>if r=i then g j else f r j
def cellF(M:List UInt8)(C:Nat):Nat->Nat->UInt8:=fun r j=>M.getD (r*C+j) 0
def oneU(i j:Nat):UInt8:=if i=j then 1 else 0
def idL(n:Nat):List UInt8:=preL n oneU (n*n)
def wholeL(k m:Nat):List UInt8:=preL k (wholeU k) ((k+m)*k)
def pickL(M:List UInt8)(C:Nat)(ats:List Nat):List UInt8:=(ats.map fun r=>(M.take ((r+1)*C)).drop (r*C)).flatten
def invF(M:List UInt8)(n:Nat):Nat->Nat->UInt8:=fun r j=>stG (augF (cellF M n) n) n n r (n+j)
def invL(M:List UInt8)(n:Nat):List UInt8:=preL n (invF M n) (n*n)
def Goes(M:List UInt8)(n:Nat):Prop:=∀ i,i<n->HasPiv (stG (augF (cellF M n) n) n i) n i
def Rising(ats:List Nat)(n:Nat):Prop:=(∀ r s,r<s->s<ats.length->ats.getD r 0<ats.getD s 0)/\∀ r∈ats,r<n
def dataL(k m c:Nat)(ats:List Nat)(l:List (List UInt8)):List (List UInt8):=timesL (invL (pickL (wholeL k m) k ats) k) k k l c
def maxL(l:List Nat):Nat:=l.foldl max 0
def pushD(st:List Nat)(n:Nat):List Nat:=st.take (st.length - n)++[maxL (st.drop (st.length - n))+1]
end Go.Fk
