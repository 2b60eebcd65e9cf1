/- Parts of the proof of ThreeOpens: SpecI SpecM SpecT2 SpecE. -/
import Derived.Test.YtijghcbpfcjjnaaGreatDoorM06
set_option linter.unusedVariables false
set_option linter.unusedSectionVars false
set_option linter.unusedSimpArgs false
set_option maxHeartbeats 8000000
namespace Go.Fk
def xs:Nat->(Nat->UInt8)->UInt8
 | 0,_=>0
 | n+1,f=>xs n f ^^^ f n
theorem xs_zero(n:Nat)(f:Nat->UInt8)(h:∀ j,j<n->f j=0):xs n f=0:=by
 induction n with
 | zero=>rfl
 | succ n ih=>rw [xs,ih (fun j hj=>h j (by omega)),h n (by omega)];rfl
theorem xs_congr(n:Nat)(f g:Nat->UInt8)(h:∀ j,j<n->f j=g j):xs n f=xs n g:=by
 induction n with
 | zero=>rfl
 | succ n ih=>rw [xs,xs,ih (fun j hj=>h j (by omega)),h n (by omega)]
theorem xs_one(n i:Nat)(f:Nat->UInt8)(hi:i<n)(h:∀ j,j<n->j≠i->f j=0):xs n f=f i:=by
 induction n with
 | zero=>omega
 | succ n ih=>
  by_cases e:i=n
  · subst e;rw [xs,xs_zero i f (fun j hj=>h j (by omega) (by omega)),UInt8.zero_xor]
  · rw [xs,ih (by omega) (fun j hj he=>h j (by omega) he),h n (by omega) (by omega),UInt8.xor_zero]
theorem xs_add(n:Nat)(f g:Nat->UInt8):xs n f ^^^ xs n g=xs n (fun j=>f j ^^^ g j):=by
 induction n with
 | zero=>exact UInt8.xor_self.symm ▸ rfl
 | succ n ih=>rw [xs,xs,xs,xor4,ih]
theorem xs_mul(n:Nat)(c:UInt8)(f:Nat->UInt8):mul8 c (xs n f)=xs n (fun j=>mul8 c (f j)):=by
 induction n with
 | zero=>exact mul8_zero c
 | succ n ih=>rw [xs,mul8_xor,ih,xs]
theorem xs_two(n r i:Nat)(f:Nat->UInt8)(hr:r<n)(hi:i<n)(hne:r≠i)(h:∀ j,j<n->j≠r->j≠i->f j=0):xs n f=f r ^^^ f i:=by
 have e:xs n f=xs n (fun j=>(if j=r then f r else 0) ^^^ (if j=i then f i else 0)):=by
  refine xs_congr n _ _ fun j hj=>?_
  by_cases h1:j=r
  · subst h1;simp [hne]
  · by_cases h2:j=i
    · subst h2;simp [h1]
    · simp [h1,h2,h j hj h1 h2]
 rw [e,<- xs_add,xs_one n r _ hr (fun j _ he=>by simp [he]),xs_one n i _ hi (fun j _ he=>by simp [he])]
 simp
theorem xs_list(n:Nat)(f:Nat->UInt8):xs n f=xsum ((List.range n).map f):=by
 induction n with
 | zero=>rfl
 | succ n ih=>rw [xs,ih,List.range_succ,List.map_append,xsum_app];simp [xsum]
theorem xsum_filter(l:List Nat)(f:Nat->UInt8)(p:Nat->Bool)(h:∀ x∈l,p x=false->f x=0):xsum (l.map f)=xsum ((l.filter p).map f):=by
 induction l with
 | nil=>rfl
 | cons x l ih=>
  rw [List.map_cons,xsum,ih (fun y hy=>h y (by simp [hy])),List.filter_cons]
  cases hp:p x
  · rw [h x (by simp) hp];simp
  · simp [xsum]
def pivGo(A:Nat->Nat->UInt8)(c:Nat):Nat->Nat->Nat
 | 0,p=>p
 | f+1,p=>if A p c=0 then pivGo A c f (p+1)else p
def piv(A:Nat->Nat->UInt8)(n i:Nat):Nat:=pivGo A i (n - i) i
def swapF(A:Nat->Nat->UInt8)(i p:Nat):Nat->Nat->UInt8:=fun r j=>A (if r=i then p else if r=p then i else r) j
def scaleF(A:Nat->Nat->UInt8)(i:Nat)(c:UInt8):Nat->Nat->UInt8:=fun r j=>if r=i then mul8 c (A i j)else A r j
def elimF(A:Nat->Nat->UInt8)(i K:Nat):Nat->Nat->UInt8:=fun r j=>if r<K/\r≠i then A r j ^^^ mul8 (A r i) (A i j)else A r j
def scaledF(A:Nat->Nat->UInt8)(n i:Nat):Nat->Nat->UInt8:=scaleF (swapF A i (piv A n i)) i (inv8 (A (piv A n i) i))
def stepF(A:Nat->Nat->UInt8)(n i:Nat):Nat->Nat->UInt8:=elimF (scaledF A n i) i n
def stG(A:Nat->Nat->UInt8)(n:Nat):Nat->Nat->Nat->UInt8
 | 0=>A
 | i+1=>stepF (stG A n i) n i
theorem pivGo_spec(A:Nat->Nat->UInt8)(c:Nat):∀ f p,p<=pivGo A c f p/\pivGo A c f p<=p+f/\(∀ q,p<=q->q<pivGo A c f p->A q c=0)/\(pivGo A c f p<p+f->A (pivGo A c f p) c≠0):=by
 intro f
 induction f with
 | zero=>intro p;rw [pivGo];exact⟨Nat.le_refl _,Nat.le_refl _,fun q h1 h2=>by omega,fun h=>by omega⟩
 | succ f ih=>
  intro p
  rw [pivGo]
  by_cases h:A p c=0
  · rw [if_pos h]
    obtain⟨h1,h2,h3,h4⟩:=ih (p+1)
    refine⟨by omega,by omega,fun q hq1 hq2=>?_,fun hlt=>h4 (by omega)⟩
    by_cases e:q=p
    · subst e;exact h
    · exact h3 q (by omega) hq2
  · rw [if_neg h];exact⟨Nat.le_refl _,by omega,fun q h1 h2=>by omega,fun _=>h⟩
structure HasPiv (A:Nat->Nat->UInt8) (n i:Nat):Prop where
 ge:i<=piv A n i
 lt:piv A n i<n
 ne:A (piv A n i) i≠0
 zero:∀ q,i<=q->q<piv A n i->A q i=0
theorem piv_has(A:Nat->Nat->UInt8)(n i:Nat)(hi:i<n)(h:¬∀ q,i<=q->q<n->A q i=0):HasPiv A n i:=by
 obtain⟨h1,h2,h3,h4⟩:=pivGo_spec A i (n - i) i
 have hl:piv A n i<n:=by
  apply Classical.byContradiction
  intro hn
  refine h fun q hq1 hq2=>h3 q hq1 ?_
  unfold piv at hn
  omega
 exact⟨h1,hl,h4 (by unfold piv at hl;omega),h3⟩
def dotF(A:Nat->Nat->UInt8)(n r:Nat)(v:Nat->UInt8):UInt8:=xs n fun j=>mul8 (A r j) (v j)
theorem dot_swap(A:Nat->Nat->UInt8)(n i p:Nat)(v:Nat->UInt8)(hi:i<n)(hp:p<n)(h:∀ r,r<n->dotF (swapF A i p) n r v=0):∀ r,r<n->dotF A n r v=0:=by
 intro r hr
 by_cases h1:r=i
 · subst h1
   have:=h p hp
   unfold dotF swapF at this
   by_cases e:p=r
   · subst e;simpa [dotF] using this
   · simpa [dotF,e] using this
 · by_cases h2:r=p
   · subst h2
     have:=h i hi
     simpa [dotF,swapF] using this
   · have:=h r hr
     simpa [dotF,swapF,h1,h2] using this
theorem dot_scale(A:Nat->Nat->UInt8)(n i:Nat)(c:UInt8)(v:Nat->UInt8)(hc:c≠0)(h:∀ r,r<n->dotF (scaleF A i c) n r v=0):∀ r,r<n->dotF A n r v=0:=by
 intro r hr
 have h2:=h r hr
 by_cases h1:r=i
 · subst h1
   refine mul8_nz c _ hc ?_
   unfold dotF
   rw [xs_mul,<- h2]
   unfold dotF scaleF
   exact xs_congr n _ _ fun j _=>by simp [mul8_assoc]
 · simpa [dotF,scaleF,h1] using h2
theorem dot_elim(A:Nat->Nat->UInt8)(n i:Nat)(v:Nat->UInt8)(hi:i<n)(h:∀ r,r<n->dotF (elimF A i n) n r v=0):∀ r,r<n->dotF A n r v=0:=by
 have h0:dotF A n i v=0:=by simpa [dotF,elimF] using h i hi
 intro r hr
 by_cases h1:r=i
 · subst h1;exact h0
 · have h2:=h r hr
   have e:dotF (elimF A i n) n r v=dotF A n r v ^^^ mul8 (A r i) (dotF A n i v):=by
    unfold dotF
    rw [xs_mul,xs_add]
    refine xs_congr n _ _ fun j _=>?_
    simp only [elimF,hr,h1,ne_eq,not_false_eq_true,and_self,if_true]
    rw [xor_mul8,mul8_assoc]
   rw [e,h0,mul8_zero,UInt8.xor_zero]at h2
   exact h2
theorem dot_step(A:Nat->Nat->UInt8)(n i:Nat)(v:Nat->UInt8)(hi:i<n)(hp:HasPiv A n i)(h:∀ r,r<n->dotF (stepF A n i) n r v=0):∀ r,r<n->dotF A n r v=0:=
 dot_swap A n i _ v hi hp.lt (dot_scale _ n i _ v (inv8_nz _ hp.ne) (dot_elim _ n i v hi h))
def Unit(A:Nat->Nat->UInt8)(n i:Nat):Prop:=∀ c,c<i->∀ r,r<n->A r c=if r=c then 1 else 0
theorem unit_step(A:Nat->Nat->UInt8)(n i:Nat)(hi:i<n)(hp:HasPiv A n i)(hu:Unit A n i):Unit (stepF A n i) n (i+1):=by
 have hS:∀ c,c<i->∀ r,r<n->scaledF A n i r c=if r=c then 1 else 0:=by
  intro c hc r hr
  have h1:=hp.ge
  have h2:=hp.lt
  unfold scaledF scaleF swapF
  by_cases e:r=i
  · subst e
    rw [if_pos rfl,if_pos rfl,hu c hc _ h2,if_neg (by omega),if_neg (by omega),mul8_zero]
  · rw [if_neg e,if_neg e]
    by_cases e2:r=piv A n i
    · rw [if_pos e2,hu c hc i hi,if_neg (by omega),if_neg (by omega)]
    · rw [if_neg e2,hu c hc r hr]
 have hI:scaledF A n i i i=1:=by
  unfold scaledF scaleF swapF
  rw [if_pos rfl,if_pos rfl,mul8_comm,mul8_inv _ hp.ne]
 intro c hc r hr
 unfold stepF elimF
 by_cases e:r=i
 · subst e
   rw [if_neg (by simp)]
   by_cases e2:c=r
   · subst e2;rw [hI,if_pos rfl]
   · exact hS c (by omega) r hr
 · rw [if_pos ⟨hr,e⟩]
   by_cases e2:c=i
   · subst e2
     rw [hI,mul8_one,UInt8.xor_self,if_neg e]
   · rw [hS c (by omega) r hr,hS c (by omega) i hi,if_neg (c:=i=c) (by omega),mul8_zero,UInt8.xor_zero]
def Full(A:Nat->Nat->UInt8)(n:Nat):Prop:=∀ v:Nat->UInt8,(∀ r,r<n->dotF A n r v=0)->∀ j,j<n->v j=0
theorem gauss_all(A:Nat->Nat->UInt8)(n:Nat)(hA:Full A n):∀ i,i<=n->Unit (stG A n i) n i/\(∀ v:Nat->UInt8,(∀ r,r<n->dotF (stG A n i) n r v=0)->∀ r,r<n->dotF A n r v=0)/\∀ t,t<i->HasPiv (stG A n t) n t:=by
 intro i
 induction i with
 | zero=>exact fun _=>⟨fun c hc=>by omega,fun v h=>h,fun t ht=>by omega⟩
 | succ i ih=>
  intro hi
  obtain⟨h1,h2,h3⟩:=ih (by omega)
  have hp:HasPiv (stG A n i) n i:=by
   refine piv_has _ n i (by omega) fun hz=>?_
   have key:=hA (fun j=>if j<i then stG A n i j i else if j=i then 1 else 0) (h2 _ fun r hr=>?_) i (by omega)
   · simp at key
   · unfold dotF
     by_cases hri:r<i
     · rw [xs_two n r i _ hr (by omega) (by omega)]
       · rw [h1 r hri r hr]
         simp [hri,one_mul8,mul8_one]
       · intro j hj hjr hji
         by_cases hlt:j<i
         · rw [h1 j hlt r hr,if_neg (Ne.symm hjr),zero_mul8]
         · simp [hlt,hji,mul8_zero]
     · refine xs_zero n _ fun j hj=>?_
       by_cases hlt:j<i
       · rw [h1 j hlt r hr,if_neg (by omega),zero_mul8]
       · by_cases e:j=i
         · subst e;rw [hz r (by omega) hr,zero_mul8]
         · simp [hlt,e,mul8_zero]
  refine⟨unit_step _ n i (by omega) hp h1,fun v h=>h2 v (dot_step _ n i v (by omega) hp h),fun t ht=>?_⟩
  by_cases e:t=i
  · subst e;exact hp
  · exact h3 t (by omega)
theorem gauss_piv(A:Nat->Nat->UInt8)(n:Nat)(hA:Full A n)(i:Nat)(hi:i<n):HasPiv (stG A n i) n i:=(gauss_all A n hA n (Nat.le_refl _)).2.2 i hi
def augF(M:Nat->Nat->UInt8)(n:Nat):Nat->Nat->UInt8:=fun r j=>if j<n then M r j else if j - n=r then 1 else 0
theorem aug_full(M:Nat->Nat->UInt8)(n:Nat)(h:Full M n):Full (augF M n) n:=by
 intro v hv
 refine h v fun r hr=>?_
 rw [<- hv r hr]
 unfold dotF
 exact xs_congr n _ _ fun j hj=>by simp [augF,hj]
theorem full_congr(M M':Nat->Nat->UInt8)(n:Nat)(h:Full M n)(he:∀ r,r<n->∀ j,j<n->M' r j=M r j):Full M' n:=by
 intro v hv
 refine h v fun r hr=>?_
 rw [<- hv r hr]
 unfold dotF
 exact xs_congr n _ _ fun j hj=>by rw [he r hr j hj]
theorem stG_id(M:Nat->Nat->UInt8)(n:Nat)(h:∀ r,r<n->∀ j,j<n->M r j=if r=j then 1 else 0):∀ i,i<=n->∀ r,r<n->∀ j,stG (augF M n) n i r j=augF M n r j:=by
 intro i
 induction i with
 | zero=>intro _ r _ j;rfl
 | succ i ih=>
  intro hi r hr j
  have ih:=ih (by omega)
  have hp:piv (stG (augF M n) n i) n i=i:=by
   unfold piv
   obtain⟨f,hf⟩:∃ f,n - i=f+1:=⟨n - i - 1,by omega⟩
   rw [hf,pivGo,ih i (by omega),if_neg]
   simp only [augF,show i<n from by omega,if_true]
   rw [h i (by omega) i (by omega)]
   simp
  have h1:augF M n i i=1:=by simp only [augF,show i<n from by omega,if_true];rw [h i (by omega) i (by omega)];simp
  have hS:∀ r,r<n->∀ j,scaledF (stG (augF M n) n i) n i r j=augF M n r j:=by
   intro r hr j
   unfold scaledF scaleF swapF
   rw [hp]
   by_cases e:r=i
   · subst e;rw [if_pos rfl,if_pos rfl,ih r hr,ih r hr,h1,inv8_one,one_mul8]
   · rw [if_neg e,if_neg e,if_neg e,ih r hr]
  show elimF _ i n r j=_
  unfold elimF
  by_cases e:r=i
  · subst e;rw [if_neg (by simp)];exact hS r hr j
  · rw [if_pos ⟨hr,e⟩,hS r hr j,hS r hr i,show augF M n r i=0 from ?_,zero_mul8,UInt8.xor_zero]
    simp only [augF,show i<n from by omega,if_true]
    rw [h r hr i (by omega),if_neg e]
def wholeU(k t j:Nat):UInt8:=if t<k then(if t=j then 1 else 0)else inv8 (UInt8.ofNat (t ^^^ j))
theorem nodup_len:∀ (n:Nat) (l:List Nat),l.Nodup->(∀ x∈l,x<n)->l.length<=n:=by
 intro n
 induction n with
 | zero=>
  intro l _ h
  obtain _ | ⟨x,l⟩:=l
  · exact Nat.le_refl _
  · exact absurd (h x (by simp)) (by omega)
 | succ n ih=>
  intro l hn h
  have := ih (l.erase n) (hn.erase n) (fun x hx => by
   have h1 := (hn.mem_erase_iff).1 hx
   have h2 := h x h1.2
   have h3 := h1.1
   omega)
  rw [List.length_erase]at this
  split at this <;> omega
theorem ofNat8_inj{a b:Nat}(ha:a<256)(hb:b<256)(h:UInt8.ofNat a=UInt8.ofNat b):a=b:=by
 rw [<- ofNat_toNat8 a ha,<- ofNat_toNat8 b hb,h]
theorem nodup_map_inj{α β:Type}(f:α->β):∀ (l:List α),l.Nodup->(∀ x∈l,∀ y∈l,f x=f y->x=y)->(l.map f).Nodup:=by
 intro l
 induction l with
 | nil=>intro _ _;exact List.nodup_nil
 | cons x l ih=>
  intro hn h
  rw [List.map_cons,List.nodup_cons]
  refine⟨fun hm=>?_,ih (List.nodup_cons.1 hn).2 (fun a ha b hb=>h a (by simp [ha]) b (by simp [hb]))⟩
  obtain⟨y,hy,e⟩:=List.mem_map.1 hm
  have:=h y (by simp [hy]) x (by simp) e
  subst this
  exact(List.nodup_cons.1 hn).1 hy
theorem whole_full(k m:Nat)(hkm:k+m<=255)(at_:Nat->Nat)(hup:∀ r s,r<s->s<k->at_ r<at_ s)(hat:∀ r,r<k->at_ r<k+m):Full (fun r j=>wholeU k (at_ r) j) k:=by
 intro v hv
 apply Classical.byContradiction
 intro hne
 obtain⟨j0,hj0⟩:=Classical.not_forall.1 hne
 obtain⟨hjk,hj1⟩:=Classical.not_imp.1 hj0
 have hinj:∀ r,r<k->∀ s,s<k->at_ r=at_ s->r=s:=by
  intro r hr s hs e
  rcases Nat.lt_trichotomy r s with h | h | h
  · have:=hup r s h hs;omega
  · exact h
  · have:=hup s r h hr;omega
 -- those that are lost are not among the places
 have hsm:∀ r,r<k->at_ r<k->v (at_ r)=0:=by
  intro r hr hlt
  have:=hv r hr
  unfold dotF at this
  rw [xs_one k (at_ r) _ hlt]at this
  · simpa [wholeU,hlt,one_mul8] using this
  · intro j _ he
    simp [wholeU,hlt,Ne.symm he,zero_mul8]
 let Y:=(List.range k).filter fun j=>v j != 0
 let T:=(List.range k).map at_
 have hY:Y.Nodup:=List.nodup_range.filter _
 have hT:T.Nodup:=nodup_map_inj _ _ List.nodup_range (fun r hr s hs e=>hinj r (List.mem_range.1 hr) s (List.mem_range.1 hs) e)
 have hcount:Y.length<=(T.filter fun t=>decide (k<=t)).length:=by
  have h1:(Y++T.filter fun t=>decide (t<k)).length<=k:=by
   refine nodup_len k _ ?_ ?_
   · rw [List.nodup_append]
     refine⟨hY,hT.filter _,fun a ha b hb e=>?_⟩
     subst e
     obtain⟨ht,hlt⟩:=List.mem_filter.1 hb
     obtain⟨r,hr,rfl⟩:=List.mem_map.1 ht
     have h0:=hsm r (List.mem_range.1 hr) (by simpa using hlt)
     have:=(List.mem_filter.1 ha).2
     rw [h0]at this
     simp at this
   · intro x hx
     rcases List.mem_append.1 hx with h | h
     · exact List.mem_range.1 (List.mem_filter.1 h).1
     · simpa using (List.mem_filter.1 h).2
  have h2:=List.length_eq_countP_add_countP (fun t=>decide (t<k)) (l:=T)
  rw [List.length_append]at h1
  have h3:T.length=k:=by simp [T]
  rw [List.countP_eq_length_filter,List.countP_eq_length_filter]at h2
  have h4:(T.filter fun a=>decide (¬(decide (a<k)=true)))=T.filter fun t=>decide (k<=t):=by
   refine List.filter_congr fun x _=>?_
   simp
  rw [h4]at h2
  omega
 have hYb:∀ j∈Y,j<k/\v j≠0:=fun j hj=>⟨List.mem_range.1 (List.mem_filter.1 hj).1,by simpa using (List.mem_filter.1 hj).2⟩
 have hTb:∀ t∈T.filter (fun t=>decide (k<=t)),∃ r,r<k/\t=at_ r/\k<=t/\t<k+m:=by
  intro t ht
  obtain⟨h1,h2⟩:=List.mem_filter.1 ht
  obtain⟨r,hr,rfl⟩:=List.mem_map.1 h1
  exact⟨r,List.mem_range.1 hr,rfl,by simpa using h2,hat r (List.mem_range.1 hr)⟩
 refine cauchy_no (Y.map UInt8.ofNat) ((T.filter fun t=>decide (k<=t)).map UInt8.ofNat) (fun y=>v y.toNat) ?_ ?_ ?_ ?_ ?_ ?_ ?_
 · intro e
   have:j0∈Y:=List.mem_filter.2 ⟨List.mem_range.2 hjk,by simpa using hj1⟩
   rw [List.map_eq_nil_iff]at e
   rw [e]at this
   simp at this
 · simpa using hcount
 · exact nodup_map_inj _ _ hY fun a ha b hb e=>ofNat8_inj (by have:=(hYb a ha).1;omega) (by have:=(hYb b hb).1;omega) e
 · exact nodup_map_inj _ _ (hT.filter _) fun a ha b hb e=>by
     obtain⟨_,_,_,_,h1⟩:=hTb a ha
     obtain⟨_,_,_,_,h2⟩:=hTb b hb
     exact ofNat8_inj (by omega) (by omega) e
 · intro x hx hy
   obtain⟨t,ht,rfl⟩:=List.mem_map.1 hx
   obtain⟨j,hj,e⟩:=List.mem_map.1 hy
   obtain⟨_,_,_,h0,h1⟩:=hTb t ht
   have:=(hYb j hj).1
   have:=ofNat8_inj (by omega) (by omega) e
   omega
 · intro y hy
   obtain⟨j,hj,rfl⟩:=List.mem_map.1 hy
   have:=hYb j hj
   rw [ofNat_toNat8 j (by omega)]
   exact this.2
 · intro x hx
   obtain⟨t,ht,rfl⟩:=List.mem_map.1 hx
   obtain⟨r,hr,rfl,h0,h1⟩:=hTb t ht
   have h2:=hv r hr
   unfold dotF at h2
   rw [xs_list, xsum_filter _ _ (fun j => v j != 0) (fun j _ hj => by
    have : v j = 0 := by simpa using hj
    rw [this, mul8_zero])] at h2
   rw [List.map_map,<- h2]
   congr 1
   refine List.map_congr_left fun j hj=>?_
   have hjb:=hYb j hj
   simp only [Function.comp]
   rw [ofNat_toNat8 j (by omega),mul8_comm]
   congr 1
   rw [wholeU,if_neg (by omega),UInt8.ofNat_xor]
def preL(C:Nat)(f:Nat->Nat->UInt8)(n:Nat):List UInt8:=(List.range n).map fun t=>f (t / C) (t % C)
theorem preL_len(C:Nat)(f:Nat->Nat->UInt8)(n:Nat):(preL C f n).length=n:=by simp [preL]
theorem div_at(C i j:Nat)(hj:j<C):(i*C+j) / C=i:=by
 rw [Nat.mul_comm,Nat.mul_add_div (by omega),Nat.div_eq_of_lt hj,Nat.add_zero]
theorem mod_at(C i j:Nat)(hj:j<C):(i*C+j) % C=j:=by
 rw [Nat.mul_comm,Nat.mul_add_mod,Nat.mod_eq_of_lt hj]
theorem preL_step(C:Nat)(f:Nat->Nat->UInt8)(i j:Nat)(hj:j<C):preL C f (i*C+(j+1))=preL C f (i*C+j)++[f i j]:=by
 rw [<- Nat.add_assoc];unfold preL
 rw [List.range_succ,List.map_append,List.map_cons,List.map_nil,div_at C i j hj,mod_at C i j hj]
theorem preL_next(C:Nat)(f:Nat->Nat->UInt8)(i:Nat):preL C f ((i+1)*C+0)=preL C f (i*C+C):=by rw [Nat.add_mul];simp
theorem preL_congr(C:Nat)(f g:Nat->Nat->UInt8)(n:Nat)(h:∀ t,t<n->f (t / C) (t % C)=g (t / C) (t % C)):preL C f n=preL C g n:=by
 unfold preL;exact List.map_congr_left fun t ht=>h t (List.mem_range.1 ht)
theorem preL_at(C:Nat)(f:Nat->Nat->UInt8)(n t:Nat)(h:t<n):(preL C f n).getD t 0=f (t / C) (t % C):=by
 rw [getD_at _ _ _ (by rw [preL_len];exact h)];simp [preL]
theorem preL_cell(C:Nat)(f:Nat->Nat->UInt8)(R i j:Nat)(hi:i<R)(hj:j<C):(preL C f (R*C)).getD (i*C+j) 0=f i j:=by
 have:i*C+j<R*C:=by have:=Nat.mul_le_mul_right C (show i+1<=R by omega);rw [Nat.add_mul]at this;omega
 rw [preL_at _ _ _ _ this,div_at C i j hj,mod_at C i j hj]
def rowOf(C:Nat)(f:Nat->Nat->UInt8)(i:Nat):List UInt8:=(List.range C).map (f i)
theorem rowOf_len(C:Nat)(f:Nat->Nat->UInt8)(i:Nat):(rowOf C f i).length=C:=by simp [rowOf]
theorem preL_row(C:Nat)(f:Nat->Nat->UInt8)(R i:Nat)(hi:i<R):(((preL C f (R*C)).take ((i+1)*C)).drop (i*C))=rowOf C f i:=by
  have h1:(i+1)*C=i*C+C:=by rw [Nat.add_mul];omega
  have h2:i*C+C<=R*C:=by have:=Nat.mul_le_mul_right C (show i+1<=R by omega);omega
  apply List.ext_getElem
  · rw [List.length_drop,List.length_take,preL_len,rowOf_len];omega
  · intro j hj1 hj2
    rw [rowOf_len]at hj2
    simp only [List.getElem_drop,List.getElem_take,preL,rowOf,List.getElem_map,List.getElem_range]
    rw [div_at C i j hj2,mod_at C i j hj2]
def putRow(f:Nat->Nat->UInt8)(i:Nat)(g:Nat->UInt8):Nat->Nat->UInt8:=fun r j=>if r=i then g j else f r j
theorem preL_put(C:Nat)(f:Nat->Nat->UInt8)(R i:Nat)(hi:i<R)(g:Nat->UInt8):(preL C f (R*C)).take (i*C)++((List.range C).map g++(preL C f (R*C)).drop (i*C+C))=preL C (putRow f i g) (R*C):=by
 have h2:i*C+C<=R*C:=by have:=Nat.mul_le_mul_right C (show i+1<=R by omega);rw [Nat.add_mul]at this;omega
 apply List.ext_getElem
 · simp only [List.length_append,List.length_take,List.length_drop,preL_len,List.length_map,List.length_range];omega
 · intro t ht1 ht2
   rw [preL_len]at ht2
   by_cases h0:t<i*C
   · rw [List.getElem_append_left (by rw [List.length_take,preL_len];omega)]
     simp only [List.getElem_take,preL,List.getElem_map,List.getElem_range,putRow]
     have:t / C<i:=(Nat.div_lt_iff_lt_mul (by rcases Nat.eq_zero_or_pos C with e | e;(subst e;simp at h0);exact e)).2 h0
     rw [if_neg (by omega)]
   · rw [List.getElem_append_right (by rw [List.length_take,preL_len];omega)]
     by_cases h1:t<i*C+C
     · rw [List.getElem_append_left (by simp only [List.length_take,preL_len,List.length_map,List.length_range];omega)]
       simp only [List.length_take,List.getElem_map,List.getElem_range,preL,putRow]
       have e1:t / C=i:=by
        have:=div_at C i (t - i*C) (by omega)
        rw [show i*C+(t - i*C)=t by omega]at this;exact this
       have e2:t % C=t - i*C:=by
        have:=mod_at C i (t - i*C) (by omega)
        rw [show i*C+(t - i*C)=t by omega]at this;exact this
       rw [if_pos e1,e2]
       congr 1
       rw [List.length_map,List.length_range]
       omega
     · rw [List.getElem_append_right (by simp only [List.length_take,preL_len,List.length_map,List.length_range];omega)]
       simp only [List.getElem_drop,List.length_take,List.length_map,List.length_range,preL,List.getElem_map,List.getElem_range,putRow]
       have hC:0<C:=by
        rcases Nat.eq_zero_or_pos C with e | e
        · subst e;simp at ht2
        · exact e
       have e0:i*C+C+(t - min (i*C) (R*C) - C)=t:=by omega
       rw [e0,if_neg]
       intro e
       have:=(Nat.div_lt_iff_lt_mul hC (x:=t) (y:=i+1)).1 (by omega)
       rw [Nat.add_mul]at this
       omega
theorem preL_set(C:Nat)(f:Nat->Nat->UInt8)(n i j:Nat)(hj:j<C)(x:UInt8):(preL C f n).set (i*C+j) x=preL C (fun r c=>if r=i/\c=j then x else f r c) n:=by
 apply List.ext_getElem
 · rw [List.length_set,preL_len,preL_len]
 · intro t h1 h2
   rw [preL_len]at h2
   by_cases e:t=i*C+j
   · subst e
     rw [List.getElem_set_self]
     simp only [preL,List.getElem_map,List.getElem_range]
     rw [div_at C i j hj,mod_at C i j hj,if_pos ⟨rfl,rfl⟩]
   · rw [List.getElem_set_ne (fun h=>e h.symm)]
     simp only [preL,List.getElem_map,List.getElem_range]
     rw [if_neg]
     rintro⟨h3,h4⟩
     have:=Nat.div_add_mod t C
     rw [h3,h4,Nat.mul_comm]at this
     exact e this.symm
theorem addP_eq'(l b:List UInt8)(c:UInt8):addP l c.toNat b=l.zipWith (fun x y=>x ^^^ mul8 c y) b:=by
 unfold addP
 congr 1
 funext x y
 exact UInt8.toNat_inj.1 (by rw [UInt8.toNat_xor,mul8_nat,ofNat_toNat8 _ (Nat.xor_lt_two_pow (n:=8) x.toNat_lt (mul_lt _ _ c.toNat_lt))])
theorem addP_row(n:Nat)(f:Nat->Nat->UInt8)(i k:Nat)(c:UInt8):addP (rowOf n f i) c.toNat (rowOf n f k)=(List.range n).map fun j=>f i j ^^^ mul8 c (f k j):=by
 rw [addP_eq']
 unfold rowOf
 apply List.ext_getElem
 · simp
 · intro t h1 h2
   simp
theorem put_swap(f:Nat->Nat->UInt8)(i j:Nat):putRow (putRow f i (f j)) j (f i)=swapF f i j:=by
 funext r c
 unfold putRow swapF
 by_cases h1:r=j
 · subst h1
   by_cases h2:r=i
   · subst h2;simp
   · simp [h2]
 · by_cases h2:r=i
   · subst h2;simp [h1]
   · simp [h1,h2]
def cellF(M:List UInt8)(C:Nat):Nat->Nat->UInt8:=fun r j=>M.getD (r*C+j) 0
theorem preL_cellF(M:List UInt8)(C R:Nat)(h:M.length=R*C):preL C (cellF M C) (R*C)=M:=by
 apply List.ext_getElem
 · rw [preL_len,h]
 · intro t h1 h2
   simp only [preL,List.getElem_map,List.getElem_range,cellF]
   rw [Nat.mul_comm,Nat.div_add_mod,getD_at _ _ _ h2]
def oneU(i j:Nat):UInt8:=if i=j then 1 else 0
def idL(n:Nat):List UInt8:=preL n oneU (n*n)
def wholeL(k m:Nat):List UInt8:=preL k (wholeU k) ((k+m)*k)
def pickL(M:List UInt8)(C:Nat)(ats:List Nat):List UInt8:=(ats.map fun r=>(M.take ((r+1)*C)).drop (r*C)).flatten
theorem pick_whole(k m:Nat)(ats:List Nat)(h:∀ r∈ats,r<k+m):pickL (wholeL k m) k ats=preL k (fun r j=>wholeU k (ats.getD r 0) j) (ats.length*k):=by
 have key:∀ n,n<=ats.length->pickL (wholeL k m) k (ats.take n)=preL k (fun r j=>wholeU k (ats.getD r 0) j) (n*k):=by
  intro n
  induction n with
  | zero=>intro _;simp [pickL,preL]
  | succ n ih=>
   intro hn
   have e1:ats.take (n+1)=ats.take n++[ats[n]]:=by rw [List.take_add_one,List.getElem?_eq_getElem (by omega)];rfl
   have e2:pickL (wholeL k m) k (ats.take n++[ats[n]])=pickL (wholeL k m) k (ats.take n)++((wholeL k m).take ((ats[n]+1)*k)).drop (ats[n]*k):=by
    unfold pickL;rw [List.map_append,List.flatten_append,List.map_cons,List.map_nil,List.flatten_cons,List.flatten_nil,List.append_nil]
   rw [e1,e2,ih (by omega),wholeL,preL_row k (wholeU k) (k+m) _ (h _ (List.getElem_mem _))]
   unfold preL rowOf
   rw [Nat.add_mul,Nat.one_mul,List.range_add,List.map_append,List.map_map]
   congr 1
   refine List.map_congr_left fun j hj=>?_
   have hj:=List.mem_range.1 hj
   simp only [Function.comp]
   rw [div_at k n j hj,mod_at k n j hj,getD_at _ _ _ (by omega)]
 have:=key ats.length (Nat.le_refl _)
 rwa [List.take_of_length_le (Nat.le_refl _)]at this
def invF(M:List UInt8)(n:Nat):Nat->Nat->UInt8:=fun r j=>stG (augF (cellF M n) n) n n r (n+j)
def invL(M:List UInt8)(n:Nat):List UInt8:=preL n (invF M n) (n*n)
def Goes(M:List UInt8)(n:Nat):Prop:=∀ i,i<n->HasPiv (stG (augF (cellF M n) n) n i) n i
def Rising(ats:List Nat)(n:Nat):Prop:=(∀ r s,r<s->s<ats.length->ats.getD r 0<ats.getD s 0)/\∀ r∈ats,r<n
theorem pick_goes(k m:Nat)(hkm:k+m<=255)(ats:List Nat)(hl:ats.length=k)(h:Rising ats (k+m)):Goes (pickL (wholeL k m) k ats) k:=by
 intro i hi
 refine gauss_piv _ k (aug_full _ k (full_congr _ _ k (whole_full k m hkm (fun r=>ats.getD r 0) (fun r s h1 h2=>h.1 r s h1 (by omega)) fun r hr=>?_) fun r hr j hj=>?_)) i hi
 · rw [getD_at _ _ _ (by omega)];exact h.2 _ (List.getElem_mem _)
 · rw [pick_whole k m ats h.2,hl]
   exact preL_cell k _ k r j hr hj
theorem rising_ge(ats:List Nat)(n:Nat)(h:Rising ats n):∀ r,r<ats.length->r<=ats.getD r 0:=by
 intro r
 induction r with
 | zero=>intro _;omega
 | succ r ih=>
  intro hr
  have h1:=ih (by omega)
  have h2:=h.1 r (r+1) (by omega) hr
  omega
theorem rising_all(ats:List Nat)(n:Nat)(h:Rising ats n)(hp:0<ats.length)(hl:ats.getD (ats.length - 1) 0=ats.length - 1):∀ r,r<ats.length->ats.getD r 0=r:=by
 have key:∀ d r,r+d=ats.length - 1->ats.getD r 0=r:=by
  intro d
  induction d with
  | zero=>intro r hr;rw [Nat.add_zero]at hr;rw [hr];exact hl
  | succ d ih=>
   intro r hr
   have h1:=ih (r+1) (by omega)
   have h2:=h.1 r (r+1) (by omega) (by omega)
   have h3:=rising_ge ats n h r (by omega)
   omega
 intro r hr
 exact key (ats.length - 1 - r) r (by omega)
theorem inv_id(k m:Nat)(ats:List Nat)(hl:ats.length=k)(h:Rising ats (k+m))(he:∀ r,r<k->ats.getD r 0=r):invL (pickL (wholeL k m) k ats) k=idL k:=by
 unfold invL idL
 refine preL_congr k _ _ _ fun t ht=>?_
 have hk:0<k:=by rcases Nat.eq_zero_or_pos k with e | e;(subst e;simp at ht);exact e
 have hr:t / k<k:=(Nat.div_lt_iff_lt_mul hk).2 ht
 have hj:t % k<k:=Nat.mod_lt _ hk
 unfold invF
 rw [stG_id _ k ?_ k (Nat.le_refl _) _ hr]
 · simp only [augF,oneU,show ¬k+t % k<k by omega,if_false]
   have e:k+t % k - k=t % k:=by omega
   rw [e]
   by_cases e2:t % k=t / k
   · rw [if_pos e2,if_pos e2.symm]
   · rw [if_neg e2,if_neg (Ne.symm e2)]
 · intro r hr j hj
   rw [pick_whole k m ats h.2,hl,cellF,preL_cell k _ k r j hr hj,he r hr,wholeU,if_pos hr]
theorem one_mulN(y:Nat)(h:y<256):mulN 1 y=y:=by rw [mul_commN 1 y (by omega) h];simpa using allB_out 256 _ one_all y h
theorem addP_none(l b:List UInt8)(L:Nat)(h1:l.length=L)(h2:b.length=L):addP l (0:UInt8).toNat b=l:=by
 rw [UInt8.toNat_zero];exact addP_zero l b (by rw [h1,h2])
theorem addP_one(b:List UInt8)(L:Nat)(h2:b.length=L):addP (List.replicate L 0) (1:UInt8).toNat b=b:=by
 rw [UInt8.toNat_one]
 apply List.ext_getElem
 · rw [addP,List.length_zipWith,List.length_replicate,h2,Nat.min_self]
 · intro t h1 h2
   simp only [addP,List.getElem_zipWith,List.getElem_replicate]
   rw [one_mulN _ (UInt8.toNat_lt _),UInt8.toNat_zero,Nat.zero_xor,UInt8.ofNat_toNat]
theorem rowT_id(n i:Nat)(ds:List (List UInt8))(L:Nat)(hi:i<n)(hn:ds.length=n)(hl:∀ p∈ds,p.length=L)(j:Nat)(hj:j<=n):rowT (idL n) n i ds L j=if i<j then ds.getD i []else List.replicate L 0:=by
 have hat:∀ q,q<n->(ds.getD q []).length=L:=fun q hq=>by rw [getD_at _ _ _ (by omega)];exact hl _ (List.getElem_mem _)
 induction j with
 | zero=>rw [if_neg (by omega)];rfl
 | succ j ih=>
  have hjl:=hat j (by omega)
  rw [rowT,ih (by omega),idL,preL_cell n oneU n i j hi (by omega),oneU]
  by_cases e:i=j
  · subst e
    rw [if_pos rfl,if_neg (by omega),if_pos (by omega)]
    exact addP_one _ L hjl
  · rw [if_neg e]
    by_cases h2:i<j
    · rw [if_pos h2,if_pos (by omega)]
      exact addP_none _ _ L (hat i hi) hjl
    · rw [if_neg h2,if_neg (by omega)]
      exact addP_none _ _ L (by simp) hjl
theorem times_id(ds:List (List UInt8))(L:Nat)(hl:∀ p∈ds,p.length=L):timesL (idL ds.length) ds.length ds.length ds L=ds:=by
 apply List.ext_getElem
 · rw [timesL_len]
 · intro i h1 h2
   rw [timesL_at _ _ _ _ _ i h2,rowT_id _ i ds L h2 rfl hl _ (Nat.le_refl _),if_pos h2,getD_at _ _ _ h2]
def dataL(k m c:Nat)(ats:List Nat)(l:List (List UInt8)):List (List UInt8):=timesL (invL (pickL (wholeL k m) k ats) k) k k l c
theorem data_len(k m c:Nat)(ats:List Nat)(l:List (List UInt8)):(dataL k m c ats l).length=k:=timesL_len _ _ _ _ _
theorem data_id(k m c:Nat)(ats:List Nat)(l:List (List UInt8))(hl:ats.length=k)(hk:l.length=k)(h:Rising ats (k+m))(hc:∀ p∈l,p.length=c)(he:∀ r,r<k->ats.getD r 0=r):dataL k m c ats l=l:=by
 unfold dataL
 rw [inv_id k m ats hl h he,<- hk]
 exact times_id l c hc
theorem data_all(k m c:Nat)(ats:List Nat)(l:List (List UInt8))(hk:l.length=k)(hc:∀ p∈l,p.length=c):∀ p∈dataL k m c ats l,p.length=c:=by
 intro p hp
 obtain⟨i,_,rfl⟩:=List.mem_map.1 hp
 exact rowT_len _ _ _ _ _ _ hc (by omega)
def padL(l:List UInt8)(n:Nat):List UInt8:=l++(List.replicate n 0).drop l.length
theorem padL_len(l:List UInt8)(n:Nat)(h:l.length<=n):(padL l n).length=n:=by simp [padL];omega
theorem padL_at(l:List UInt8)(n i:Nat):(padL l n).getD i 0=l.getD i 0:=by
 unfold padL
 rw [List.getD_eq_getElem?_getD,List.getD_eq_getElem?_getD]
 by_cases h:i<l.length
 · rw [List.getElem?_append_left h]
 · rw [List.getElem?_append_right (by omega),List.getElem?_eq_none (l:=l) (by omega),List.getElem?_drop,List.getElem?_replicate]
   split <;> rfl
theorem part_eq(l:List UInt8)(n A d j c:Nat)(hl:l.length<=n)(hA:A+d<=n)(hj:j+c<=d):((((padL l n).drop A).take d).drop j).take c=cutP l (A+j) c:=by
  have hp:=padL_len l n hl
  apply List.ext_getElem
  · rw [cutP_len,List.length_take,List.length_drop,List.length_take,List.length_drop,hp];omega
  · intro i h1 h2
    rw [cutP_len]at h2
    have e:=padL_at l n (A+j+i)
    rw [getD_at _ _ _ (by rw [hp];omega)]at e
    simp only [cutP,List.getElem_take,List.getElem_drop,List.getElem_map,List.getElem_range]
    rw [<- e]
    congr 1
    omega
def risesGo(bound:Nat):Nat->List Nat->Bool
 | _,[]=>true
 | lo,x::l=>decide (lo<=x) && decide (x<bound) && risesGo bound (x+1) l
def efLow(w:Nat)(l:List Nat):List UInt8:=(l.map fun x=>bitsL (x % 2 ^ w) w).flatten
def efHigh(w:Nat):Nat->List Nat->List UInt8
 | _,[]=>[]
 | was,x::l=>unaryL (x / 2 ^ w - was)++efHigh w (x / 2 ^ w) l
def efL(bound:Nat)(l:List Nat):List UInt8:=
 numB l.length++if l=[]then []else packW (efLow (Nat.log2 (bound / l.length)) l++efHigh (Nat.log2 (bound / l.length)) 0 l)
theorem log2_le(q k:Nat)(h1:2 ^ k<=q)(h2:q<2 ^ (k+1)):Nat.log2 q=k:=(Nat.log2_eq_iff (by have:=Nat.two_pow_pos k;omega)).2 ⟨h1,h2⟩
end Go.Fk
