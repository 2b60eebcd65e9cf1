/- Parts of the proof of ArchOne: SpecS SpecS2 SpecS3 SpecS4 SpecL SpecG SpecW SpecN SpecQ SpecE SpecR SpecL2 SpecC SpecT SpecT2. -/
set_option linter.unusedVariables false
set_option linter.unusedSectionVars false
set_option linter.unusedSimpArgs false
set_option maxHeartbeats 8000000
namespace Go.Fk
def ltK(key:Nat->Nat)(a b:Nat):Prop:=key a<key b\/(key a=key b/\a<b)
theorem ltK_trans{key:Nat->Nat}{a b c:Nat}(h:ltK key a b)(k:ltK key b c):ltK key a c:=by unfold ltK at *;omega
theorem ltK_asymm{key:Nat->Nat}{a b:Nat}(h:ltK key a b):¬ltK key b a:=by unfold ltK at *;omega
abbrev SrtK(key:Nat->Nat)(l:List Nat):Prop:=l.Pairwise (ltK key)
theorem srtK_unique{key:Nat->Nat}{l m:List Nat}(hp:l.Perm m)(h1:SrtK key l)(h2:SrtK key m):l=m:=
 hp.eq_of_pairwise (fun _ _ _ _ h k=>absurd k (ltK_asymm h)) h1 h2
def downTo(f:Nat->Bool):Nat->Nat
 | 0=>0
 | n+1=>if f n then downTo f n else n+1
theorem downTo_le(f:Nat->Bool)(n:Nat):downTo f n<=n:=by
 induction n with
 | zero=>exact Nat.le_refl _
 | succ n ih=>rw [downTo];split <;> omega
theorem downTo_pass(f:Nat->Bool)(n:Nat):∀ i,downTo f n<=i->i<n->f i=true:=by
 induction n with
 | zero=>intro i _ h;omega
 | succ n ih=>
  intro i h1 h2
  rw [downTo]at h1
  split at h1
  · by_cases e:i=n
    · subst e;assumption
    · exact ih i h1 (by omega)
  · omega
theorem downTo_stop(f:Nat->Bool)(n:Nat)(h:downTo f n≠0):f (downTo f n - 1)=false:=by
 induction n with
 | zero=>exact absurd rfl h
 | succ n ih=>
  rw [downTo]at h ⊢
  split
  · rename_i hf;rw [if_pos hf]at h;exact ih h
  · rename_i hf;simpa using hf
def putK(key:Nat->Nat)(l:List Nat)(x:Nat):List Nat:=
 l.take (downTo (fun i=>decide (key x<key (l.getD i 0))) l.length)++x::l.drop (downTo (fun i=>decide (key x<key (l.getD i 0))) l.length)
theorem putK_perm(key:Nat->Nat)(l:List Nat)(x:Nat):(putK key l x).Perm (x::l):=by
 unfold putK
 refine List.perm_middle.trans ?_
 rw [List.take_append_drop]
theorem putK_srt(key:Nat->Nat)(l:List Nat)(x:Nat)(hs:SrtK key l)(hx:∀ y∈l,y<x):SrtK key (putK key l x):=by
 unfold putK
 have hd:=downTo_le (fun i=>decide (key x<key (l.getD i 0))) l.length
 have hpass:=downTo_pass (fun i=>decide (key x<key (l.getD i 0))) l.length
 have hstop:=downTo_stop (fun i=>decide (key x<key (l.getD i 0))) l.length
 generalize downTo (fun i=>decide (key x<key (l.getD i 0))) l.length=d at *
 have h1:∀ y∈l.take d,ltK key y x:=by
  intro y hy
  obtain⟨i,hi,rfl⟩:=List.getElem_of_mem hy
  have hi':i<d:=by have:=hi;rw [List.length_take]at this;omega
  have hil:i<l.length:=by omega
  rw [List.getElem_take]
  have hst:=hstop (by omega)
  simp only [decide_eq_false_iff_not,Nat.not_lt,List.getD_eq_getElem?_getD,List.getElem?_eq_getElem (show d - 1<l.length by omega),Option.getD_some]at hst
  have hle:key l[i]<=key (l[d - 1]'(by omega)):=by
   by_cases e:i=d - 1
   · subst e;exact Nat.le_refl _
   · have:=List.pairwise_iff_getElem.1 hs i (d - 1) hil (by omega) (by omega)
     unfold ltK at this;omega
  have:=hx l[i] (List.getElem_mem hil)
  unfold ltK;omega
 have h2:∀ y∈l.drop d,ltK key x y:=by
  intro y hy
  obtain⟨i,hi,rfl⟩:=List.getElem_of_mem hy
  have hi':d+i<l.length:=by have:=hi;rw [List.length_drop]at this;omega
  rw [List.getElem_drop]
  have:=hpass (d+i) (by omega) hi'
  simp only [decide_eq_true_eq,List.getD_eq_getElem?_getD,List.getElem?_eq_getElem hi',Option.getD_some]at this
  exact .inl this
 refine List.pairwise_append.2 ⟨hs.sublist (List.take_sublist _ _),List.pairwise_cons.2 ⟨h2,hs.sublist (List.drop_sublist _ _)⟩,fun a ha b hb=>?_⟩
 rcases List.mem_cons.1 hb with rfl | hb
 · exact h1 a ha
 · exact ltK_trans (h1 a ha) (h2 b hb)
def usedK(key:Nat->Nat)(l:List Nat):List Nat:=l.foldl (putK key) []
theorem usedK_of(key:Nat->Nat):∀ (l acc:List Nat),SrtK key acc->(∀ y∈acc,∀ x∈l,y<x)->l.Pairwise (·<·)->SrtK key (l.foldl (putK key) acc)/\(l.foldl (putK key) acc).Perm (acc++l):=by
 intro l
 induction l with
 | nil=>intro acc hs _ _;exact⟨hs,by simp⟩
 | cons x l ih=>
  intro acc hs hlt hp
  have hp':=List.pairwise_cons.1 hp
  have hpm:=putK_perm key acc x
  obtain ⟨h1, h2⟩ := ih (putK key acc x) (putK_srt key acc x hs fun y hy => hlt y hy x (by simp)) (fun y hy z hz => by
   rcases List.mem_cons.1 (hpm.mem_iff.1 hy) with rfl | hy
   · exact hp'.1 z hz
   · exact hlt y hy z (by simp [hz])) hp'.2
  refine⟨h1,h2.trans ?_⟩
  exact(hpm.append_right l).trans (List.perm_middle.symm)
theorem usedK_srt(key:Nat->Nat)(l:List Nat)(hp:l.Pairwise (·<·)):SrtK key (usedK key l):=(usedK_of key l [] List.Pairwise.nil (by simp) hp).1
theorem usedK_perm(key:Nat->Nat)(l:List Nat)(hp:l.Pairwise (·<·)):(usedK key l).Perm l:=by
 have h:=(usedK_of key l [] List.Pairwise.nil (by simp) hp).2
 rw [List.nil_append]at h
 exact h
theorem usedK_eq(key:Nat->Nat)(l m:List Nat)(hp:l.Pairwise (·<·))(hm:m.Perm l)(hs:SrtK key m):m=usedK key l:=
 srtK_unique (hm.trans (usedK_perm key l hp).symm) hs (usedK_srt key l hp)
def segF(f:Nat->Nat)(a b:Nat):List Nat:=(List.range (b - a)).map fun i=>f (a+i)
theorem segF_len(f:Nat->Nat)(a b:Nat):(segF f a b).length=b - a:=by simp [segF]
theorem segF_split(f:Nat->Nat)(a m b:Nat)(h1:a<=m)(h2:m<=b):segF f a b=segF f a m++segF f m b:=by
 unfold segF
 rw [show b - a=(m - a)+(b - m) by omega,List.range_add,List.map_append,List.map_map]
 congr 1
 refine List.map_congr_left fun i _=>?_
 show f (a+(m - a+i))=f (m+i)
 congr 1;omega
theorem segF_congr(f g:Nat->Nat)(a b:Nat)(h:∀ p,a<=p->p<b->f p=g p):segF f a b=segF g a b:=by
 unfold segF
 refine List.map_congr_left fun i hi=>?_
 have:=List.mem_range.1 hi
 exact h _ (by omega) (by omega)
theorem segF_shift(f g:Nat->Nat)(a b c d:Nat)(hl:b - a=d - c)(h:∀ i,i<b - a->f (a+i)=g (c+i)):segF f a b=segF g c d:=by
 unfold segF
 rw [<- hl]
 exact List.map_congr_left fun i hi=>h i (List.mem_range.1 hi)
theorem mem_segF(f:Nat->Nat)(a b x:Nat):x∈segF f a b↔∃ p,a<=p/\p<b/\f p=x:=by
 unfold segF
 rw [List.mem_map]
 constructor
 · rintro⟨i,hi,rfl⟩;have:=List.mem_range.1 hi;exact⟨a+i,by omega,by omega,rfl⟩
 · rintro⟨p,h1,h2,rfl⟩;exact⟨p - a,List.mem_range.2 (by omega),by congr 1;omega⟩
theorem segF_at(f:Nat->Nat)(a b i:Nat)(h:i<(segF f a b).length):(segF f a b)[i]=f (a+i):=by simp [segF]
def RearF(f f':Nat->Nat)(a b:Nat):Prop:=(∀ p,p<a\/b<=p->f' p=f p)/\(segF f' a b).Perm (segF f a b)
theorem RearF.refl(f:Nat->Nat)(a b:Nat):RearF f f a b:=⟨fun _ _=>rfl,List.Perm.refl _⟩
theorem RearF.trans{f g h:Nat->Nat}{a b:Nat}(h1:RearF f g a b)(h2:RearF g h a b):RearF f h a b:=⟨fun p hp=>(h2.1 p hp).trans (h1.1 p hp),h2.2.trans h1.2⟩
theorem RearF.congr{f g g':Nat->Nat}{a b:Nat}(h1:RearF f g a b)(h2:∀ p,g' p=g p):RearF f g' a b:=by
 have:g'=g:=funext h2
 rw [this];exact h1
theorem RearF.widen{f f':Nat->Nat}{a b a' b':Nat}(h:RearF f f' a b)(h1:a'<=a)(h2:a<=b)(h3:b<=b'):RearF f f' a' b':=by
 refine⟨fun p hp=>h.1 p (by omega),?_⟩
 rw [segF_split f' a' a b' h1 (by omega),segF_split f' a b b' h2 h3,segF_split f a' a b' h1 (by omega),segF_split f a b b' h2 h3]
 rw [segF_congr f' f a' a (fun p _ hp=>h.1 p (by omega)),segF_congr f' f b b' (fun p hp _=>h.1 p (by omega))]
 exact(List.Perm.refl _).append (h.2.append (List.Perm.refl _))
theorem RearF.mem{f f':Nat->Nat}{a b:Nat}(h:RearF f f' a b)(p:Nat)(h1:a<=p)(h2:p<b):∃ q,a<=q/\q<b/\f' p=f q:=by
 have:f' p∈segF f a b:=h.2.mem_iff.1 ((mem_segF f' a b _).2 ⟨p,h1,h2,rfl⟩)
 obtain⟨q,h3,h4,h5⟩:=(mem_segF f a b _).1 this
 exact⟨q,h3,h4,h5.symm⟩
def rotF(f:Nat->Nat)(a m b p:Nat):Nat:=if a<=p/\p<a+(b - m)then f (p+m - a)else if a+(b - m)<=p/\p<b then f (p - (b - m))else f p
theorem rotF_rear(f:Nat->Nat)(a m b:Nat)(h1:a<=m)(h2:m<=b):RearF f (rotF f a m b) a b:=by
 refine⟨fun p hp=>by unfold rotF;rw [if_neg (by omega),if_neg (by omega)],?_⟩
 rw [segF_split (rotF f a m b) a (a+(b - m)) b (by omega) (by omega),segF_split f a m b h1 h2]
 rw [segF_shift (rotF f a m b) f a (a+(b - m)) m b (by omega) (fun i hi=>by unfold rotF;rw [if_pos (by omega)];congr 1;omega)]
 rw [segF_shift (rotF f a m b) f (a+(b - m)) b a m (by omega) (fun i hi=>by unfold rotF;rw [if_neg (by omega),if_pos (by omega)];congr 1;omega)]
 exact List.perm_append_comm
def swpF(f:Nat->Nat)(a b n p:Nat):Nat:=if a<=p/\p<a+n then f (p - a+b)else if b<=p/\p<b+n then f (p - b+a)else f p
theorem swpF_zero(f:Nat->Nat)(a b p:Nat):swpF f a b 0 p=f p:=by unfold swpF;rw [if_neg (by omega),if_neg (by omega)]
def sw2(f:Nat->Nat)(i j p:Nat):Nat:=if p=j then f i else if p=i then f j else f p
theorem swpF_succ(f:Nat->Nat)(a b n p:Nat)(h:a+n<b):sw2 (swpF f a b n) (a+n) (b+n) p=swpF f a b (n+1) p:=by
 unfold sw2 swpF
 repeat' split
 all_goals first
  | rfl
  | (congr 1;omega)
  | (exfalso;omega)
theorem rot_even(f:Nat->Nat)(m i p:Nat)(h:i<=m):swpF f (m - i) m i p=rotF f (m - i) m (m+i) p:=by
 unfold swpF rotF
 repeat' split
 all_goals first
  | rfl
  | (congr 1;omega)
  | (exfalso;omega)
theorem rot_left(f:Nat->Nat)(m i j p:Nat)(h:i<=m)(hj:j<i):rotF (swpF f (m - i) m j) (m - (i - j)) m (m+j) p=rotF f (m - i) m (m+j) p:=by
 unfold rotF swpF
 repeat' split
 all_goals first
  | rfl
  | (congr 1;omega)
  | (exfalso;omega)
theorem rot_right(f:Nat->Nat)(m i j p:Nat)(h:i<=m)(hj:i<j):rotF (swpF f (m - i) (m+j - i) i) (m - i) m (m+(j - i)) p=rotF f (m - i) m (m+j) p:=by
 unfold rotF swpF
 repeat' split
 all_goals first
  | rfl
  | (congr 1;omega)
  | (exfalso;omega)
theorem rot_up(f:Nat->Nat)(a k p:Nat)(h:a<=k):sw2 (rotF f a (a+1) (k+1)) k (k+1) p=rotF f a (a+1) (k+2) p:=by
 unfold sw2 rotF
 repeat' split
 all_goals first
  | rfl
  | (congr 1;omega)
  | (exfalso;omega)
theorem rot_down(f:Nat->Nat)(m k p:Nat)(h:k<=m)(hk:0<k):sw2 (rotF f k m (m+1)) k (k - 1) p=rotF f (k - 1) m (m+1) p:=by
 unfold sw2 rotF
 repeat' split
 all_goals first
  | rfl
  | (congr 1;omega)
  | (exfalso;omega)
theorem rotF_id1(f:Nat->Nat)(a b p:Nat)(h:a<=b):rotF f a a b p=f p:=by
 unfold rotF
 repeat' split
 all_goals first
  | rfl
  | (congr 1;omega)
  | (exfalso;omega)
theorem rotF_id2(f:Nat->Nat)(a m p:Nat):rotF f a m m p=f p:=by
 unfold rotF
 repeat' split
 all_goals first
  | rfl
  | (congr 1;omega)
  | (exfalso;omega)
def SrtF(key:Nat->Nat)(f:Nat->Nat)(a b:Nat):Prop:=∀ i j,a<=i->i<j->j<b->ltK key (f i) (f j)
theorem SrtF.list{key f:Nat->Nat}{a b:Nat}(h:SrtF key f a b):SrtK key (segF f a b):=by
 rw [SrtK,List.pairwise_iff_getElem]
 intro i j hi hj hij
 rw [segF_at,segF_at]
 rw [segF_len]at hi hj
 exact h _ _ (by omega) (by omega) (by omega)
theorem SrtF.sub{key f:Nat->Nat}{a b c d:Nat}(h:SrtF key f a b)(h1:a<=c)(h2:d<=b):SrtF key f c d:=fun i j x y z=>h i j (by omega) y (by omega)
theorem SrtF.congr{key f g:Nat->Nat}{a b:Nat}(h:SrtF key f a b)(he:∀ p,a<=p->p<b->g p=f p):SrtF key g a b:=fun i j x y z=>by rw [he i x (by omega),he j (by omega) z];exact h i j x y z
def insF(g:Nat->Nat)(j i p:Nat):Nat:=rotF g j i (i+1) p
theorem insF_srt(key g:Nat->Nat)(a j i:Nat)(hg:SrtF key g a i)(h1:a<=j)(h2:j<=i)(hlo:∀ p,a<=p->p<j->ltK key (g p) (g i))(hhi:∀ p,j<=p->p<i->ltK key (g i) (g p)):SrtF key (insF g j i) a (i+1):=by
 have e1:∀ p,p<j->insF g j i p=g p:=fun p hp=>by unfold insF rotF;rw [if_neg (by omega),if_neg (by omega)]
 have e2:insF g j i j=g i:=by unfold insF rotF;rw [if_pos (by omega)];congr 1;omega
 have e3:∀ p,j<p->p<=i->insF g j i p=g (p - 1):=fun p hp hq=>by unfold insF rotF;rw [if_neg (by omega),if_pos (by omega)];congr 1;omega
 intro p q hp hpq hq
 rcases Nat.lt_trichotomy p j with c | c | c
 · rw [e1 p c]
   rcases Nat.lt_trichotomy q j with d | d | d
   · rw [e1 q d];exact hg p q hp hpq (by omega)
   · rw [d,e2];exact hlo p hp c
   · rw [e3 q d (by omega)];exact hg p (q - 1) hp (by omega) (by omega)
 · rw [c,e2,e3 q (by omega) (by omega)];exact hhi _ (by omega) (by omega)
 · rw [e3 p c (by omega),e3 q (by omega) (by omega)];exact hg _ _ (by omega) (by omega) (by omega)
def AheadF(f:Nat->Nat)(a m b:Nat):Prop:=∀ p q,a<=p->p<m->m<=q->q<b->f p<f q
theorem ahead_lt{key f:Nat->Nat}{a m b:Nat}(h:AheadF f a m b){p q:Nat}(h1:a<=p)(h2:p<m)(h3:m<=q)(h4:q<b):(key (f q)<key (f p)↔ltK key (f q) (f p))/\(¬key (f q)<key (f p)↔ltK key (f p) (f q)):=by
 have:=h p q h1 h2 h3 h4
 unfold ltK;omega
theorem merge_one(key f:Nat->Nat)(a b i:Nat)(hs:SrtF key f (a+1) b)(h1:a+1<=i)(h2:i<=b)(hlo:∀ p,a+1<=p->p<i->ltK key (f p) (f a))(hhi:∀ p,i<=p->p<b->ltK key (f a) (f p)):SrtF key (rotF f a (a+1) i) a b:=by
 have e1:∀ p,a<=p->p<i - 1->rotF f a (a+1) i p=f (p+1):=fun p hp hq=>by unfold rotF;rw [if_pos (by omega)];congr 1;omega
 have e2:rotF f a (a+1) i (i - 1)=f a:=by unfold rotF;rw [if_neg (by omega),if_pos (by omega)];congr 1;omega
 have e3:∀ p,i<=p->rotF f a (a+1) i p=f p:=fun p hp=>by unfold rotF;rw [if_neg (by omega),if_neg (by omega)]
 intro p q hp hpq hq
 rcases Nat.lt_trichotomy p (i - 1)with c | c | c
 · rw [e1 p hp c]
   rcases Nat.lt_trichotomy q (i - 1)with d | d | d
   · rw [e1 q (by omega) d];exact hs _ _ (by omega) (by omega) (by omega)
   · rw [d,e2];exact hlo _ (by omega) (by omega)
   · rw [e3 q (by omega)];exact hs _ _ (by omega) (by omega) (by omega)
 · rw [c,e2,e3 q (by omega)];exact hhi _ (by omega) (by omega)
 · rw [e3 p (by omega),e3 q (by omega)];exact hs _ _ (by omega) (by omega) (by omega)
theorem sym_join(key f g:Nat->Nat)(a mid b:Nat)(h1:SrtF key g a mid)(h2:SrtF key g mid b)(hr1:∀ p,a<=p->p<mid->∃ q,a<=q/\q<mid/\g p=f q)(hr2:∀ p,mid<=p->p<b->∃ q,mid<=q/\q<b/\g p=f q)(hx:∀ p q,a<=p->p<mid->mid<=q->q<b->ltK key (f p) (f q)):SrtF key g a b:=by
 intro p q hp hpq hq
 by_cases c:q<mid
 · exact h1 p q hp hpq c
 · by_cases d:mid<=p
   · exact h2 p q d hpq hq
   · obtain⟨p',a1,a2,a3⟩:=hr1 p hp (by omega)
     obtain⟨q',b1,b2,b3⟩:=hr2 q (by omega) hq
     rw [a3,b3];exact hx p' q' a1 a2 b1 b2
theorem rot_in1(f:Nat->Nat)(s m e p:Nat)(h:p<s):rotF f s m e p=f p:=by unfold rotF;rw [if_neg (by omega),if_neg (by omega)]
theorem rot_in2(f:Nat->Nat)(s m e p:Nat)(h:s<=p)(h2:p<s+(e - m)):rotF f s m e p=f (p+m - s):=by unfold rotF;rw [if_pos (by omega)]
theorem rot_in3(f:Nat->Nat)(s m e p:Nat)(h:s+(e - m)<=p)(h2:p<e):rotF f s m e p=f (p - (e - m)):=by unfold rotF;rw [if_neg (by omega),if_pos (by omega)]
theorem rot_in4(f:Nat->Nat)(s m e p:Nat)(h:e<=p)(hs:s<=m)(hm:m<=e):rotF f s m e p=f p:=by unfold rotF;rw [if_neg (by omega),if_neg (by omega)]
section
variable {key f:Nat->Nat} {a m b mid s e:Nat} (h1:a<=s) (h2:s<=m) (h3:m<=e) (h4:e<=b) (h5:e+s=mid+m)
include h1 h2 h3 h4 h5
theorem sym_low(p:Nat)(ha:a<=p)(hp:p<mid):(p<s/\rotF f s m e p=f p)\/(s<=p/\m<=p+m - s/\p+m - s<e/\rotF f s m e p=f (p+m - s)):=by
 by_cases c:p<s
 · exact .inl ⟨c,rot_in1 f s m e p c⟩
 · exact .inr ⟨by omega,by omega,by omega,rot_in2 f s m e p (by omega) (by omega)⟩
theorem sym_high(p:Nat)(ha:mid<=p)(hp:p<b):(p<e/\s<=p - (e - m)/\p - (e - m)<m/\rotF f s m e p=f (p - (e - m)))\/(e<=p/\rotF f s m e p=f p):=by
 by_cases c:p<e
 · exact .inl ⟨c,by omega,by omega,rot_in3 f s m e p (by omega) c⟩
 · exact .inr ⟨by omega,rot_in4 f s m e p (by omega) h2 h3⟩
theorem sym_cross(hs1:SrtF key f a m)(hs2:SrtF key f m b)(hx1:a<s->e<b->ltK key (f (s - 1)) (f e))(hx2:s<m->m<e->ltK key (f (e - 1)) (f s)) :
  ∀ p q,a<=p->p<mid->mid<=q->q<b->ltK key (rotF f s m e p) (rotF f s m e q):=by
 intro p q ha hp hq hb
 have le1:∀ x y,a<=x->x<=y->y<m->∀ z,ltK key (f y) z->ltK key (f x) z:=fun x y i j k z hz=>by
  by_cases c:x=y
  · rw [c];exact hz
  · exact ltK_trans (hs1 x y i (by omega) k) hz
 have le2:∀ x y,m<=x->x<=y->y<b->∀ z,ltK key z (f x)->ltK key z (f y):=fun x y i j k z hz=>by
  by_cases c:x=y
  · rw [<- c];exact hz
  · exact ltK_trans hz (hs2 x y i (by omega) k)
 have le3:∀ x y,m<=x->x<=y->y<b->∀ z,ltK key (f y) z->ltK key (f x) z:=fun x y i j k z hz=>by
  by_cases c:x=y
  · rw [c];exact hz
  · exact ltK_trans (hs2 x y i (by omega) k) hz
 have le4:∀ x y,a<=x->x<=y->y<m->∀ z,ltK key z (f x)->ltK key z (f y):=fun x y i j k z hz=>by
  by_cases c:x=y
  · rw [<- c];exact hz
  · exact ltK_trans hz (hs1 x y i (by omega) k)
 rcases sym_low (f:=f) h1 h2 h3 h4 h5 p ha hp with⟨c1,c2⟩ | ⟨c1,c2,c3,c4⟩
 · rcases sym_high (f:=f) h1 h2 h3 h4 h5 q hq hb with⟨d1,d2,d3,d4⟩ | ⟨d1,d2⟩
   · rw [c2,d4];exact hs1 _ _ ha (by omega) d3
   · rw [c2,d2]
     exact le1 p (s - 1) ha (by omega) (by omega) _ (le2 e q h3 d1 hb _ (hx1 (by omega) (by omega)))
 · rcases sym_high (f:=f) h1 h2 h3 h4 h5 q hq hb with⟨d1,d2,d3,d4⟩ | ⟨d1,d2⟩
   · rw [c4,d4]
     exact le3 _ (e - 1) c2 (by omega) (by omega) _ (le4 s _ h1 d2 d3 _ (hx2 (by omega) (by omega)))
   · rw [c4,d2];exact hs2 _ _ c2 (by omega) hb
theorem sym_srt1(hs1:SrtF key f a m):SrtF key (rotF f s m e) a s:=(hs1.sub (Nat.le_refl a) h2).congr fun p _ hp=>rot_in1 f s m e p hp
theorem sym_srt2(hs2:SrtF key f m b):SrtF key (rotF f s m e) s mid:=fun i j x y z=>by
 rw [rot_in2 f s m e i x (by omega),rot_in2 f s m e j (by omega) (by omega)]
 exact hs2 _ _ (by omega) (by omega) (by omega)
theorem sym_srt3(hs1:SrtF key f a m):SrtF key (rotF f s m e) mid e:=fun i j x y z=>by
 rw [rot_in3 f s m e i (by omega) (by omega),rot_in3 f s m e j (by omega) (by omega)]
 exact hs1 _ _ (by omega) (by omega) (by omega)
theorem sym_srt4(hs2:SrtF key f m b):SrtF key (rotF f s m e) e b:=(hs2.sub h3 (Nat.le_refl b)).congr fun p hp _=>rot_in4 f s m e p hp h2 h3
theorem sym_ah1(hA:AheadF f a m b):AheadF (rotF f s m e) a s mid:=fun p q x y z t=>by
 rw [rot_in1 f s m e p y,rot_in2 f s m e q z (by omega)]
 exact hA _ _ x (by omega) (by omega) (by omega)
theorem sym_ah2(hA:AheadF f a m b):AheadF (rotF f s m e) mid e b:=fun p q x y z t=>by
 rw [rot_in3 f s m e p (by omega) y,rot_in4 f s m e q z h2 h3]
 exact hA _ _ (by omega) (by omega) (by omega) t
end
theorem search_in(key f:Nat->Nat)(a m b lo hi p c:Nat)(hs1:SrtF key f a m)(hs2:SrtF key f m b)(h1:a<=lo)(h2:hi<=m)(h3:∀ x,lo<=x->x<hi->m<=p - x/\p - x<b/\x<=p)(hc1:lo<=c)(hc2:c<hi) :
  (ltK key (f c) (f (p - c))->∀ x,lo<=x->x<c+1->ltK key (f x) (f (p - x)))/\(ltK key (f (p - c)) (f c)->∀ x,c<=x->x<hi->ltK key (f (p - x)) (f x)):=by
 refine⟨fun h x hx1 hx2=>?_,fun h x hx1 hx2=>?_⟩
 · by_cases e:x=c
   · rw [e];exact h
   · have a1:=hs1 x c (by omega) (by omega) (by omega)
     have k1:=h3 x hx1 (by omega)
     have k2:=h3 c hc1 hc2
     have a2:=hs2 (p - c) (p - x) k2.1 (by omega) k1.2.1
     exact ltK_trans a1 (ltK_trans h a2)
 · by_cases e:x=c
   · rw [e];exact h
   · have a1:=hs1 c x (by omega) (by omega) (by omega)
     have k1:=h3 x (by omega) hx2
     have k2:=h3 c hc1 hc2
     have a2:=hs2 (p - x) (p - c) k1.1 (by omega) k2.2.1
     exact ltK_trans a2 (ltK_trans h a1)
theorem blk_iff(c t i:Nat)(hc:0<c):i / c=t↔c*t<=i/\i<c*t+c:=by
 constructor
 · intro h
   subst h
   have h1:=Nat.div_add_mod i c
   have h2:=Nat.mod_lt i hc
   omega
 · rintro⟨h1,h2⟩
   refine Nat.le_antisymm ?_ ?_
   · refine Nat.le_of_lt_succ ((Nat.div_lt_iff_lt_mul hc).2 ?_)
     rw [Nat.mul_comm,Nat.mul_succ];omega
   · rw [Nat.le_div_iff_mul_le hc,Nat.mul_comm];exact h1
structure BlkF (key f0 f:Nat->Nat) (c n lim:Nat):Prop where
 rear:RearF f0 f 0 n
 loc:∀ p,p<n->∃ q,q<n/\q / c=p / c/\f p=f0 q
 srt:∀ i j,i<j->j<n->j<lim->i / c=j / c->ltK key (f i) (f j)
theorem BlkF.start(key f0:Nat->Nat)(c n:Nat):BlkF key f0 f0 c n 0:=⟨RearF.refl _ _ _,fun p h=>⟨p,h,rfl,rfl⟩,fun i j _ _ h _=>by omega⟩
theorem BlkF.double{key f0 f:Nat->Nat}{c n:Nat}(h:BlkF key f0 f c n n):BlkF key f0 f (2*c) n 0:=
 ⟨h.rear, fun p hp => by
  obtain ⟨q, h1, h2, h3⟩ := h.loc p hp
  exact ⟨q, h1, by rw [Nat.mul_comm 2 c, ← Nat.div_div_eq_div_mul, ← Nat.div_div_eq_div_mul, h2], h3⟩, fun i j _ _ h _ => by omega⟩
theorem BlkF.step{key f0 g g' h:Nat->Nat}{c n t b:Nat}(hc:0<c)(hb:BlkF key f0 g c n (c*t))(hh:∀ p,c*t<=p->g p=h p)(hr:RearF g g' (c*t) b)(hs:SrtF key g' (c*t) b)(htb:c*t<=b)(hbn:b<=n)(hbc:b<=c*t+c)(hb2:b=c*t+c\/b=n) :
  BlkF key f0 g' c n b/\∀ p,b<=p->g' p=h p:=by
 refine⟨⟨hb.rear.trans (hr.widen (Nat.zero_le _) htb hbn),fun p hp=>?_,fun i j hij hj hl he=>?_⟩,fun p hp=>?_⟩
 · by_cases c1:c*t<=p/\p<b
   · obtain⟨q,h1,h2,h3⟩:=hr.mem p c1.1 c1.2
     obtain⟨r,r1,r2,r3⟩:=hb.loc q (by omega)
     refine⟨r,r1,?_,by rw [h3,r3]⟩
     rw [r2,(blk_iff c t q hc).2 ⟨h1,by omega⟩,(blk_iff c t p hc).2 ⟨c1.1,by omega⟩]
   · rw [hr.1 p (by omega)];exact hb.loc p hp
 · by_cases c1:j<c*t
   · rw [hr.1 i (by omega),hr.1 j (by omega)];exact hb.srt i j hij hj c1 he
   · have hjt:j / c=t:=(blk_iff c t j hc).2 ⟨by omega,by omega⟩
     have hit:=(blk_iff c t i hc).1 (he.trans hjt)
     exact hs i j hit.1 hij hl
 · rw [hr.1 p (by omega)];exact hh p (by omega)
theorem BlkF.parts{key f0 f:Nat->Nat}{c n t b:Nat}(hc:0<c)(hb:BlkF key f0 f c n n)(hup:∀ p q,p<q->q<n->f0 p<f0 q)(h1:2*c*t+c<=b)(hbn:b<=n)(hbc:b<=2*c*t+2*c) :
  AheadF f (2*c*t) (2*c*t+c) b/\SrtF key f (2*c*t) (2*c*t+c)/\SrtF key f (2*c*t+c) b:=by
 have e1:2*c*t=c*(2*t):=by simp [Nat.mul_comm,Nat.mul_left_comm]
 have e2:2*c*t+c=c*(2*t+1):=by rw [e1,Nat.mul_succ]
 refine⟨fun p q a1 a2 a3 a4=>?_,fun i j a1 a2 a3=>?_,fun i j a1 a2 a3=>?_⟩
 · obtain⟨p',b1,b2,b3⟩:=hb.loc p (by omega)
   obtain⟨q',d1,d2,d3⟩:=hb.loc q (by omega)
   have k1:p / c=2*t:=(blk_iff c (2*t) p hc).2 ⟨by omega,by omega⟩
   have k2:q / c=2*t+1:=(blk_iff c (2*t+1) q hc).2 ⟨by omega,by omega⟩
   have m1:=(blk_iff c (2*t) p' hc).1 (b2.trans k1)
   have m2:=(blk_iff c (2*t+1) q' hc).1 (d2.trans k2)
   rw [b3,d3]
   exact hup p' q' (by omega) d1
 · have k1:i / c=2*t:=(blk_iff c (2*t) i hc).2 ⟨by omega,by omega⟩
   have k2:j / c=2*t:=(blk_iff c (2*t) j hc).2 ⟨by omega,by omega⟩
   exact hb.srt i j a2 (by omega) (by omega) (k1.trans k2.symm)
 · have k1:i / c=2*t+1:=(blk_iff c (2*t+1) i hc).2 ⟨by omega,by omega⟩
   have k2:j / c=2*t+1:=(blk_iff c (2*t+1) j hc).2 ⟨by omega,by omega⟩
   exact hb.srt i j a2 (by omega) (by omega) (k1.trans k2.symm)
theorem BlkF.rest{key f0 f:Nat->Nat}{c n t:Nat}(hc:0<c)(hb:BlkF key f0 f c n n)(hn:n<=2*c*t+c):SrtF key f (2*c*t) n:=fun i j a1 a2 a3=>by
 have e1:2*c*t=c*(2*t):=by simp [Nat.mul_comm,Nat.mul_left_comm]
 have k1:i / c=2*t:=(blk_iff c (2*t) i hc).2 ⟨by omega,by omega⟩
 have k2:j / c=2*t:=(blk_iff c (2*t) j hc).2 ⟨by omega,by omega⟩
 exact hb.srt i j a2 a3 a3 (k1.trans k2.symm)
theorem BlkF.whole{key f0 f:Nat->Nat}{c n:Nat}(hb:BlkF key f0 f c n n)(hn:n<=c):SrtF key f 0 n:=fun i j _ a2 a3=>
 hb.srt i j a2 a3 a3 (by rw [Nat.div_eq_of_lt (by omega),Nat.div_eq_of_lt (by omega)])
theorem BlkF.okay{key f0 f:Nat->Nat}{c n lim:Nat}(hb:BlkF key f0 f c n lim){ok:Nat->Prop}(hok:∀ p,p<n->ok (f0 p)):∀ p,p<n->ok (f p):=fun p hp=>by
 obtain⟨q,h1,_,h3⟩:=hb.loc p hp
 rw [h3];exact hok q h1
structure It where
 w:UInt64
 leaf:Bool
 syms:List Nat
instance:Inhabited It:=⟨⟨0,false,[]⟩⟩
def pairsI:List It->List It
 | a::b::l=>⟨a.w+b.w,false,a.syms++b.syms⟩::pairsI l
 | _=>[]
def mergeI:List It->List It->List It
 | [],ks=>ks
 | l::ls,[]=>l::ls
 | l::ls,k::ks=>if l.w<=k.w then l::mergeI ls (k::ks)else k::mergeI (l::ls) ks
termination_by a b=>a.length+b.length
theorem mergeI_nil(a:List It):mergeI a []=a:=by cases a <;> simp [mergeI]
theorem nil_mergeI(a:List It):mergeI [] a=a:=by simp [mergeI]
theorem mergeI_len:∀ a b:List It,(mergeI a b).length=a.length+b.length:=by
 intro a b
 induction a,b using mergeI.induct with
 | case1 ks=>simp [mergeI]
 | case2 l ls=>simp [mergeI]
 | case3 l ls k ks h ih=>rw [mergeI,if_pos h,List.length_cons,ih];simp;omega
 | case4 l ls k ks h ih=>rw [mergeI,if_neg h,List.length_cons,ih];simp;omega
theorem pairsI_len:∀ l:List It,(pairsI l).length=l.length / 2
 | []=>rfl
 | [_]=>by simp [pairsI]
 | a::b::l=>by rw [pairsI,List.length_cons,pairsI_len l];simp only [List.length_cons];omega
def rowI(lv:List It):Nat->List It
 | 0=>lv
 | r+1=>mergeI lv (pairsI (rowI lv r))
theorem rowI_len(lv:List It)(r:Nat):(rowI lv r).length<=2*lv.length:=by
 induction r with
 | zero=>simp [rowI];omega
 | succ r ih=>rw [rowI,mergeI_len,pairsI_len];omega
theorem rowI_long(lv:List It):∀ r,2*lv.length<=(rowI lv r).length+(lv.length+2 ^ r - 1) / 2 ^ r:=by
 intro r
 induction r with
 | zero=>simp [rowI];omega
 | succ r ih=>
  rw [rowI,mergeI_len,pairsI_len]
  have h:(lv.length+2 ^ (r+1) - 1) / 2 ^ (r+1)=((lv.length+2 ^ r - 1) / 2 ^ r+1) / 2:=by
   rw [Nat.pow_succ,<- Nat.div_div_eq_div_mul]
   have hp:=Nat.two_pow_pos r
   have e:lv.length+2 ^ r*2 - 1=(lv.length+2 ^ r - 1)+2 ^ r*1:=by omega
   rw [e,Nat.add_mul_div_left _ _ hp]
  rw [h];omega
theorem rowI_enough(lv:List It)(r:Nat)(h:lv.length<=2*2 ^ r):2*lv.length - 2<=(rowI lv r).length:=by
 have h1:=rowI_long lv r
 have hp:=Nat.two_pow_pos r
 have h2:(lv.length+2 ^ r - 1) / 2 ^ r<=2:=by
  refine Nat.le_of_lt_succ ((Nat.div_lt_iff_lt_mul hp).2 ?_)
  omega
 omega
def leavesN(l:List It):Nat:=(l.filter (·.leaf)).length
theorem leavesN_le(l:List It):leavesN l<=l.length:=List.length_filter_le _ _
theorem merge_take(ls:List It)(hl:∀ x∈ls,x.leaf=true)(ks:List It)(hk:∀ x∈ks,x.leaf=false) :
  ∀ t, t ≤ (mergeI ls ks).length → ∃ n m, n + m = t ∧ n ≤ ls.length ∧ m ≤ ks.length ∧ leavesN ((mergeI ls ks).take t) = n ∧
   ((mergeI ls ks).take t).filter (·.leaf)=ls.take n/\((mergeI ls ks).take t).filter (fun x=>!x.leaf)=ks.take m:=by
 induction ls,ks using mergeI.induct with
 | case1 ks=>
  intro t ht
  rw [nil_mergeI]at *
  have e1:(ks.take t).filter (·.leaf)=[]:=List.filter_eq_nil_iff.2 fun x hx=>by simp [hk x (List.mem_of_mem_take hx)]
  have e2:(ks.take t).filter (fun x=>!x.leaf)=ks.take t:=List.filter_eq_self.2 fun x hx=>by simp [hk x (List.mem_of_mem_take hx)]
  exact⟨0,t,by omega,by simp,ht,by rw [leavesN,e1];rfl,by rw [e1];simp,e2⟩
 | case2 l ls=>
  intro t ht
  rw [mergeI_nil]at *
  have e1:((l::ls).take t).filter (·.leaf)=(l::ls).take t:=List.filter_eq_self.2 fun x hx=>hl x (List.mem_of_mem_take hx)
  have e2:((l::ls).take t).filter (fun x=>!x.leaf)=[]:=List.filter_eq_nil_iff.2 fun x hx=>by simp [hl x (List.mem_of_mem_take hx)]
  exact⟨t,0,by omega,ht,by simp,by rw [leavesN,e1,List.length_take];omega,e1,by rw [e2];simp⟩
 | case3 l ls k ks h ih=>
  intro t ht
  rw [mergeI,if_pos h]at *
  cases t with
  | zero=>exact⟨0,0,rfl,by simp,by simp,by simp [leavesN],by simp,by simp⟩
  | succ t=>
   obtain⟨n,m,h1,h2,h3,h4,h5,h6⟩:=ih (fun x hx=>hl x (by simp [hx])) hk t (by simpa using ht)
   have e:=hl l (by simp)
   refine⟨n+1,m,by omega,by simpa using h2,h3,?_,?_,?_⟩
   · rw [leavesN,List.take_succ_cons,List.filter_cons_of_pos (by exact e),List.length_cons];exact congrArg (·+1) h4
   · rw [List.take_succ_cons,List.filter_cons_of_pos (by exact e),h5,List.take_succ_cons]
   · rw [List.take_succ_cons,List.filter_cons_of_neg (by simp [e]),h6]
 | case4 l ls k ks h ih=>
  intro t ht
  rw [mergeI,if_neg h]at *
  cases t with
  | zero=>exact⟨0,0,rfl,by simp,by simp,by simp [leavesN],by simp,by simp⟩
  | succ t=>
   obtain⟨n,m,h1,h2,h3,h4,h5,h6⟩:=ih hl (fun x hx=>hk x (by simp [hx])) t (by simpa using ht)
   have e:=hk k (by simp)
   refine⟨n,m+1,by omega,h2,by simpa using h3,?_,?_,?_⟩
   · rw [leavesN,List.take_succ_cons,List.filter_cons_of_neg (by simp [e])];exact h4
   · rw [List.take_succ_cons,List.filter_cons_of_neg (by simp [e]),h5]
   · rw [List.take_succ_cons,List.filter_cons_of_pos (by simp [e]),h6,List.take_succ_cons]
theorem pairsI_leaf:∀ (l:List It),∀ x∈pairsI l,x.leaf=false
 | [],x,h=>by simp [pairsI]at h
 | [_],x,h=>by simp [pairsI]at h
 | a::b::l,x,h=>by
  rw [pairsI]at h
  rcases List.mem_cons.1 h with rfl | h
  · rfl
  · exact pairsI_leaf l x h
def symsI(l:List It):List Nat:=(l.map (·.syms)).flatten
theorem symsI_cons(x:It)(l:List It):symsI (x::l)=x.syms++symsI l:=rfl
theorem symsI_app(l m:List It):symsI (l++m)=symsI l++symsI m:=by simp [symsI]
theorem pairsI_take:∀ (l:List It) (m:Nat),m<=l.length / 2->symsI ((pairsI l).take m)=symsI (l.take (2*m))
 | [],m,h=>by simp at h;subst h;rfl
 | [_],m,h=>by simp at h;subst h;rfl
 | a::b::l,0,h=>by simp
 | a::b::l,m+1,h=>by
  rw [pairsI,List.take_succ_cons,symsI_cons,pairsI_take l m (by simp at h;omega),show 2*(m+1)=2*m+2 by omega,List.take_succ_cons,List.take_succ_cons,symsI_cons,symsI_cons,List.append_assoc]
theorem count_parts(s:Nat)(l:List It):(symsI l).count s=(symsI (l.filter (·.leaf))).count s+(symsI (l.filter (fun x=>!x.leaf))).count s:=by
 induction l with
 | nil=>rfl
 | cons x l ih=>
  rw [symsI_cons,List.count_append,ih]
  by_cases h:x.leaf=true
  · rw [List.filter_cons_of_pos (p:=fun x:It=>x.leaf) h,List.filter_cons_of_neg (by simp [h]),symsI_cons,List.count_append];omega
  · rw [List.filter_cons_of_neg (p:=fun x:It=>x.leaf) h,List.filter_cons_of_pos (by simp [h]),symsI_cons,List.count_append];omega
def downI(lv:List It):Nat->Nat->Nat->Nat
 | 0,t,s=>(symsI (lv.take (leavesN ((rowI lv 0).take t)))).count s
 | r+1,t,s=>(symsI (lv.take (leavesN ((rowI lv (r+1)).take t)))).count s+downI lv r (2*(t - leavesN ((rowI lv (r+1)).take t))) s
theorem down_eq(lv:List It)(hl:∀ x∈lv,x.leaf=true)(s:Nat):∀ r t,t<=(rowI lv r).length->(symsI ((rowI lv r).take t)).count s=downI lv r t s:=by
  intro r
  induction r with
  | zero=>
    intro t ht
    have e1:(lv.take t).filter (·.leaf)=lv.take t:=List.filter_eq_self.2 fun x hx=>hl x (List.mem_of_mem_take hx)
    have ht':t<=lv.length:=ht
    show(symsI (lv.take t)).count s=(symsI (lv.take (leavesN (lv.take t)))).count s
    rw [leavesN,e1,List.length_take,Nat.min_eq_left ht']
  | succ r ih=>
    intro t ht
    obtain⟨n,m,h1,h2,h3,h4,h5,h6⟩:=merge_take lv hl (pairsI (rowI lv r)) (pairsI_leaf _) t ht
    rw [pairsI_len]at h3
    show _=(symsI (lv.take (leavesN ((mergeI lv (pairsI (rowI lv r))).take t)))).count s+downI lv r (2*(t - leavesN ((mergeI lv (pairsI (rowI lv r))).take t))) s
    rw [h4,count_parts]
    show(symsI (((mergeI lv (pairsI (rowI lv r))).take t).filter (·.leaf))).count s+(symsI (((mergeI lv (pairsI (rowI lv r))).take t).filter (fun x=>!x.leaf))).count s=_
    rw [h5,h6,pairsI_take _ _ h3,show t - n=m by omega,ih _ (by omega)]
theorem down_room(lv:List It)(hl:∀ x∈lv,x.leaf=true)(r t:Nat)(ht:t<=(rowI lv (r+1)).length):leavesN ((rowI lv (r+1)).take t)<=t/\leavesN ((rowI lv (r+1)).take t)<=lv.length/\2*(t - leavesN ((rowI lv (r+1)).take t))<=(rowI lv r).length:=by
 obtain⟨n,m,h1,h2,h3,h4,h5,h6⟩:=merge_take lv hl (pairsI (rowI lv r)) (pairsI_leaf _) t ht
 rw [pairsI_len]at h3
 show leavesN ((mergeI lv (pairsI (rowI lv r))).take t)<=t/\leavesN ((mergeI lv (pairsI (rowI lv r))).take t)<=lv.length/\2*(t - leavesN ((mergeI lv (pairsI (rowI lv r))).take t))<=_
 rw [h4];omega
def twN(a:Nat):Nat:=if a<128 then 2*a else(2*a - 256) ^^^ 29
def mulGo:Nat->Nat->Nat->Nat->Nat
 | 0,_,_,o=>o
 | f+1,a,b,o=>if b=0 then o else mulGo f (twN a) (b / 2) (if b % 2=1 then o ^^^ a else o)
def mulN(a b:Nat):Nat:=mulGo 8 a b 0
def polyGo(a b:Nat):Nat->Nat->Nat
 | 0,p=>p
 | f+1,p=>polyGo a b f (if b / 2 ^ (7 - f) % 2=1 then p ^^^ (a*2 ^ (7 - f))else p)
def redGo:Nat->Nat->Nat
 | 0,p=>p
 | f+1,p=>redGo f (if p / 2 ^ (f+8) % 2=1 then p ^^^ (285*2 ^ f)else p)
def mulR(a b:Nat):Nat:=redGo 7 (polyGo a b 8 0)
def powGo:Nat->Nat->Nat->Nat->Nat
 | 0,_,_,o=>o
 | f+1,a,n,o=>if n=0 then o else powGo f (mulN a a) (n / 2) (if n % 2=1 then mulN o a else o)
def invN(a:Nat):Nat:=powGo 8 a 254 1
def allB(n:Nat)(p:Nat->Bool):Bool:=
 match n with
 | 0=>true
 | n+1=>p n && allB n p
theorem allB_out(n:Nat)(p:Nat->Bool)(h:allB n p=true):∀ i,i<n->p i=true:=by
 induction n with
 | zero=>intro i hi;omega
 | succ n ih=>
  rw [allB,Bool.and_eq_true]at h
  intro i hi
  by_cases e:i=n
  · subst e;exact h.1
  · exact ih h.2 i (by omega)
def sumG:Nat->Nat->Nat->Nat
 | 0,_,_=>0
 | f+1,a,b=>(if b % 2=1 then a else 0) ^^^ sumG f (twN a) (b / 2)
theorem sumG_zero(f:Nat):∀ a,sumG f a 0=0:=by
 induction f with
 | zero=>intro a;rfl
 | succ f ih=>intro a;simp [sumG,ih]
theorem mulGo_sum(f:Nat):∀ a b o,mulGo f a b o=o ^^^ sumG f a b:=by
 induction f with
 | zero=>intro a b o;simp [mulGo,sumG]
 | succ f ih=>
  intro a b o
  rw [mulGo,sumG]
  by_cases h:b=0
  · subst h;simp [sumG_zero]
  · rw [if_neg h,ih]
    by_cases h2:b % 2=1
    · simp [h2,Nat.xor_assoc]
    · simp [h2]
theorem mulN_sum(a b:Nat):mulN a b=sumG 8 a b:=by unfold mulN;rw [mulGo_sum];simp
theorem bit_xor(p q k:Nat):((p ^^^ q) / 2 ^ k % 2=1)↔¬((p / 2 ^ k % 2=1)↔(q / 2 ^ k % 2=1)):=by
 have h:=Nat.testBit_xor p q k
 rw [Nat.testBit_eq_decide_div_mod_eq,Nat.testBit_eq_decide_div_mod_eq,Nat.testBit_eq_decide_div_mod_eq]at h
 by_cases h1:p / 2 ^ k % 2=1 <;> by_cases h2:q / 2 ^ k % 2=1 <;> simp [h1,h2]at h ⊢ <;> exact h
theorem xor_cross(a b c d:Nat):(a ^^^ b) ^^^ (c ^^^ d)=(a ^^^ c) ^^^ (b ^^^ d):=by
 rw [Nat.xor_assoc,<- Nat.xor_assoc b c d,Nat.xor_comm b c,Nat.xor_assoc c b d,<- Nat.xor_assoc]
theorem if_xor(p q k c:Nat):(if(p ^^^ q) / 2 ^ k % 2=1 then(p ^^^ q) ^^^ c else p ^^^ q)=(if p / 2 ^ k % 2=1 then p ^^^ c else p) ^^^ (if q / 2 ^ k % 2=1 then q ^^^ c else q):=by
 have h:=bit_xor p q k
 by_cases h1:p / 2 ^ k % 2=1 <;> by_cases h2:q / 2 ^ k % 2=1
 · rw [if_neg (by rw [h];simp [h1,h2]),if_pos h1,if_pos h2,xor_cross,Nat.xor_self,Nat.xor_zero]
 · rw [if_pos (by rw [h];simp [h1,h2]),if_pos h1,if_neg h2,Nat.xor_assoc,Nat.xor_assoc,Nat.xor_comm q c]
 · rw [if_pos (by rw [h];simp [h1,h2]),if_neg h1,if_pos h2,Nat.xor_assoc]
 · rw [if_neg (by rw [h];simp [h1,h2]),if_neg h1,if_neg h2]
theorem red_xor(f:Nat):∀ p q,redGo f (p ^^^ q)=redGo f p ^^^ redGo f q:=by
 induction f with
 | zero=>intro p q;rfl
 | succ f ih=>intro p q;rw [redGo,redGo,redGo,if_xor,ih]
def twI:Nat->Nat->Nat
 | 0,a=>a
 | n+1,a=>twI n (twN a)
theorem red_all:allB 256 (fun a=>allB 8 fun i=>redGo 7 (a*2 ^ i) == twI i a && decide (twI i a<256))=true:=by decide +kernel
theorem red_tw(a i:Nat)(ha:a<256)(hi:i<8):redGo 7 (a*2 ^ i)=twI i a/\twI i a<256:=by
 have:=allB_out 8 _ (allB_out 256 _ red_all a ha) i hi
 simpa using this
theorem tw_all:allB 256 (fun a=>decide (twN a<256))=true:=by decide +kernel
theorem tw_lt(a:Nat)(ha:a<256):twN a<256:=by have:=allB_out 256 _ tw_all a ha;simpa using this
theorem sum_lt(f:Nat):∀ a b,a<256->sumG f a b<256:=by
 induction f with
 | zero=>intro a b _;simp [sumG]
 | succ f ih=>
  intro a b ha
  rw [sumG]
  have h1:(if b % 2=1 then a else 0)<2 ^ 8:=by split <;> omega
  have h2:sumG f (twN a) (b / 2)<2 ^ 8:=ih _ _ (tw_lt a ha)
  exact Nat.xor_lt_two_pow h1 h2
theorem mul_lt(a b:Nat)(ha:a<256):mulN a b<256:=by rw [mulN_sum];exact sum_lt 8 a b ha
theorem tw_red(a:Nat)(ha:a<256):twN a=redGo 7 (a*2):=(red_tw a 1 ha (by omega)).1.symm
theorem tw_xor(p q:Nat)(hp:p<256)(hq:q<256):twN (p ^^^ q)=twN p ^^^ twN q:=by
 have hx:p ^^^ q<2 ^ 8:=Nat.xor_lt_two_pow hp hq
 rw [tw_red _ hx,tw_red p hp,tw_red q hq,<- red_xor]
 congr 1
 have:=Nat.shiftLeft_xor_distrib (a:=p) (b:=q) (i:=1)
 simpa [Nat.shiftLeft_eq] using this
theorem sum_tw(f:Nat):∀ a b,a<256->sumG f (twN a) b=twN (sumG f a b):=by
 induction f with
 | zero=>intro a b _;rfl
 | succ f ih=>
  intro a b ha
  have h1:(if b % 2=1 then a else 0)<256:=by split <;> omega
  rw [sumG,sumG,tw_xor _ _ h1 (sum_lt f _ _ (tw_lt a ha)),ih _ _ (tw_lt a ha)]
  congr 1
  split <;> rfl
theorem sum_short(f:Nat):∀ a c,c<2 ^ f->sumG (f+1) a c=sumG f a c:=by
 induction f with
 | zero => intro a c h; have : c = 0 := by omega
           subst this;simp [sumG]
 | succ f ih=>
  intro a c h
  have e:=ih (twN a) (c / 2) (by rw [Nat.pow_succ]at h;omega)
  show(if c % 2=1 then a else 0) ^^^ sumG (f+1) (twN a) (c / 2)=(if c % 2=1 then a else 0) ^^^ sumG f (twN a) (c / 2)
  rw [e]
theorem mul_half(a b:Nat)(ha:a<256)(hb:b<256):mulN a b=twN (mulN a (b / 2)) ^^^ (if b % 2=1 then a else 0):=by
 rw [mulN_sum,mulN_sum,sum_short 7 a (b / 2) (by omega),sumG,sum_tw 7 a _ ha,Nat.xor_comm]
theorem inv_all:allB 256 (fun a=>a == 0 || (decide (invN a<256) && mulN a (invN a) == 1 && allB 8 fun k=>mulN (invN a) (mulN a (2 ^ k)) == 2 ^ k))=true:=by decide +kernel
theorem inv_facts(a:Nat)(h0:a≠0)(ha:a<256):invN a<256/\mulN a (invN a)=1/\∀ k,k<8->mulN (invN a) (mulN a (2 ^ k))=2 ^ k:=by
 have:=allB_out 256 _ inv_all a ha
 simp only [Bool.or_eq_true,Bool.and_eq_true,beq_iff_eq,decide_eq_true_eq]at this
 rcases this with h | ⟨⟨h1,h2⟩,h3⟩
 · exact absurd h h0
 · exact⟨h1,h2,fun k hk=>by simpa using allB_out 8 _ h3 k hk⟩
def bitAt(i k:Nat):Nat:=if i / 2 ^ k % 2=1 then 2 ^ k else 0
def bits8(i:Nat):Nat:=bitAt i 0 ^^^ (bitAt i 1 ^^^ (bitAt i 2 ^^^ (bitAt i 3 ^^^ (bitAt i 4 ^^^ (bitAt i 5 ^^^ (bitAt i 6 ^^^ bitAt i 7))))))
theorem mul_zero(a:Nat):mulN a 0=0:=by rw [mulN_sum,sumG_zero]
theorem sum_nil(f:Nat):∀ b,sumG f 0 b=0:=by
 induction f with
 | zero=>intro b;rfl
 | succ f ih=>intro b;rw [sumG,show twN 0=0 from rfl,ih];simp
theorem nil_mul(b:Nat):mulN 0 b=0:=by rw [mulN_sum,sum_nil]
def bitsL(x:Nat):Nat->List UInt8
 | 0=>[]
 | n+1=>UInt8.ofNat (x / 2 ^ n % 2)::bitsL x n
theorem bitsL_len(x n:Nat):(bitsL x n).length=n:=by induction n with | zero=>rfl | succ n ih=>simp [bitsL,ih]
def IsBits(l:List UInt8):Prop:=∀ c∈l,c=0\/c=1
theorem bit_of(y:Nat):UInt8.ofNat (y % 2)=0\/UInt8.ofNat (y % 2)=1:=by
 rcases Nat.mod_two_eq_zero_or_one y with h | h <;> rw [h] <;> simp
theorem bitsL_bits(x n:Nat):IsBits (bitsL x n):=by
 induction n with
 | zero=>intro c hc;cases hc
 | succ n ih=>
  intro c hc
  simp only [bitsL,List.mem_cons]at hc
  rcases hc with rfl | hc
  · exact bit_of _
  · exact ih c hc
theorem IsBits.app{a b:List UInt8}(h1:IsBits a)(h2:IsBits b):IsBits (a++b):=by
 intro c hc
 rcases List.mem_append.1 hc with h | h
 · exact h1 c h
 · exact h2 c h
def unaryL(n:Nat):List UInt8:=List.replicate n 0++[1]
def bitD(l:List UInt8)(i:Nat):Nat:=(l.getD i 0).toNat
def byteW(l:List UInt8)(q:Nat):Nat:=
 bitD l (8*q)*128+bitD l (8*q+1)*64+bitD l (8*q+2)*32+bitD l (8*q+3)*16+bitD l (8*q+4)*8+bitD l (8*q+5)*4+bitD l (8*q+6)*2+bitD l (8*q+7)
def packW(l:List UInt8):List UInt8:=(List.range ((l.length+7) / 8)).map fun q=>UInt8.ofNat (byteW l q)
theorem packW_len(l:List UInt8):(packW l).length=(l.length+7) / 8:=by simp [packW]
theorem bitD_le{l:List UInt8}(h:IsBits l)(i:Nat):bitD l i<=1:=by
 unfold bitD
 by_cases hi:i<l.length
 · rw [List.getD_eq_getElem?_getD,List.getElem?_eq_getElem hi]
   rcases h _ (List.getElem_mem hi)with e | e <;> simp [e]
 · rw [List.getD_eq_getElem?_getD,List.getElem?_eq_none (by omega)];simp
theorem byteW_lt{l:List UInt8}(h:IsBits l)(q:Nat):byteW l q<256:=by
 unfold byteW
 have h0:=bitD_le h (8*q);have h1:=bitD_le h (8*q+1);have h2:=bitD_le h (8*q+2);have h3:=bitD_le h (8*q+3)
 have h4:=bitD_le h (8*q+4);have h5:=bitD_le h (8*q+5);have h6:=bitD_le h (8*q+6);have h7:=bitD_le h (8*q+7)
 omega
theorem bitD_out(l:List UInt8)(i:Nat)(h:l.length<=i):bitD l i=0:=by
 unfold bitD;rw [List.getD_eq_getElem?_getD,List.getElem?_eq_none h];rfl
theorem bitD_old(l:List UInt8)(x:UInt8)(i:Nat)(h:i<l.length):bitD (l++[x]) i=bitD l i:=by
 unfold bitD;rw [List.getD_eq_getElem?_getD,List.getD_eq_getElem?_getD,List.getElem?_append_left h]
theorem bitD_new(l:List UInt8)(x:UInt8):bitD (l++[x]) l.length=x.toNat:=by
 unfold bitD;rw [List.getD_eq_getElem?_getD,List.getElem?_append_right (Nat.le_refl _)];simp
theorem bitD_ne(l:List UInt8)(x:UInt8)(i:Nat)(h:i≠l.length):bitD (l++[x]) i=bitD l i:=by
 by_cases hi:i<l.length
 · exact bitD_old l x i hi
 · rw [bitD_out (l++[x]) i (by simp;omega),bitD_out l i (by omega)]
theorem byteW_other(l:List UInt8)(x:UInt8)(q:Nat)(h:q≠l.length / 8):byteW (l++[x]) q=byteW l q:=by
 unfold byteW
 rw [bitD_ne l x _ (by omega),bitD_ne l x _ (by omega),bitD_ne l x _ (by omega),bitD_ne l x _ (by omega),bitD_ne l x _ (by omega),bitD_ne l x _ (by omega),bitD_ne l x _ (by omega),bitD_ne l x _ (by omega)]
theorem byteW_new(l:List UInt8)(x:UInt8):byteW (l++[x]) (l.length / 8)=byteW l (l.length / 8)+x.toNat*2 ^ (7 - l.length % 8):=by
 obtain⟨q,r,hr,hn⟩:∃ q r,r<8/\l.length=8*q+r:=⟨l.length / 8,l.length % 8,by omega,by omega⟩
 have hq:l.length / 8=q:=by omega
 have hm:l.length % 8=r:=by omega
 rw [hq,hm]
 have hnew:=bitD_new l x
 have hout:=bitD_out l l.length (Nat.le_refl _)
 rw [hn]at hnew hout
 have hne:=fun i (h:i≠8*q+r)=>bitD_ne l x i (by rw [hn];exact h)
 unfold byteW
 have cases8:r=0\/r=1\/r=2\/r=3\/r=4\/r=5\/r=6\/r=7:=by omega
 rcases cases8 with rfl | rfl | rfl | rfl | rfl | rfl | rfl | rfl <;>
  (try simp only [Nat.add_zero] at hnew hout hne
   try rw [hne (8 * q) (by omega)]
   try rw [hne (8 * q + 1) (by omega)]
   try rw [hne (8 * q + 2) (by omega)]
   try rw [hne (8 * q + 3) (by omega)]
   try rw [hne (8 * q + 4) (by omega)]
   try rw [hne (8 * q + 5) (by omega)]
   try rw [hne (8 * q + 6) (by omega)]
   try rw [hne (8 * q + 7) (by omega)]
   rw [hnew, hout]
   simp only [Nat.reduceSub, Nat.reducePow]
   omega)
theorem byteW_low{l:List UInt8}(q s:Nat)(hs:s<8)(h:l.length<=8*q+(7 - s)):byteW l q / 2 ^ s % 2=0:=by
 unfold byteW
 have cases8:s=0\/s=1\/s=2\/s=3\/s=4\/s=5\/s=6\/s=7:=by omega
 have hz:=fun i (h2:8*q+(7 - s)<=i)=>bitD_out l i (Nat.le_trans h h2)
 rcases cases8 with rfl | rfl | rfl | rfl | rfl | rfl | rfl | rfl <;>
  (simp only [Nat.reducePow]
   try rw [hz (8 * q) (by omega)]
   try rw [hz (8 * q + 1) (by omega)]
   try rw [hz (8 * q + 2) (by omega)]
   try rw [hz (8 * q + 3) (by omega)]
   try rw [hz (8 * q + 4) (by omega)]
   try rw [hz (8 * q + 5) (by omega)]
   try rw [hz (8 * q + 6) (by omega)]
   try rw [hz (8 * q + 7) (by omega)]
   all_goals omega)
theorem or_all8:allB 256 (fun y=>allB 8 fun s=>!(y / 2 ^ s % 2 == 0) || (y ||| 2 ^ s) == y+2 ^ s)=true:=by decide +kernel
theorem or_bit(y s:Nat)(hy:y<256)(hs:s<8)(h:y / 2 ^ s % 2=0):y ||| 2 ^ s=y+2 ^ s:=by
 have:=allB_out 8 _ (allB_out 256 _ or_all8 y hy) s hs
 simpa [h] using this
theorem packW_snoc(l:List UInt8)(x:UInt8)(hl:IsBits l)(hx:x=0\/x=1) :
  packW (l++[x])=((if l.length % 8=0 then packW l++[0]else packW l).set (l.length / 8) (UInt8.ofNat (byteW l (l.length / 8) ||| x.toNat*2 ^ (7 - l.length % 8)))):=by
 have hor:byteW l (l.length / 8) ||| x.toNat*2 ^ (7 - l.length % 8)=byteW (l++[x]) (l.length / 8):=by
  rw [byteW_new]
  rcases hx with rfl | rfl
  · simp
  · have e1:UInt8.toNat 1=1:=rfl
    rw [e1,Nat.one_mul]
    exact or_bit _ _ (byteW_lt hl _) (by omega) (byteW_low _ _ (by omega) (by omega))
 rw [hor]
 apply List.ext_getElem
 · rw [packW_len,List.length_set,List.length_append,List.length_singleton]
   split
   · rw [List.length_append,packW_len];simp;omega
   · rw [packW_len];omega
 · intro q h1 h2
   have hq:q<(l.length+1+7) / 8:=by rw [packW_len]at h1;simpa using h1
   rw [List.getElem_set]
   by_cases e:l.length / 8=q
   · rw [if_pos e]
     simp [packW,e]
   · rw [if_neg e]
     have hq2:q<(l.length+7) / 8:=by omega
     have e3:(packW (l++[x]))[q]=UInt8.ofNat (byteW l q):=by
      simp [packW,byteW_other l x q (fun h=>e h.symm)]
     have e4:∀ h,(packW l)[q]'h=UInt8.ofNat (byteW l q):=fun h=>by simp [packW]
     rw [e3]
     by_cases h0:l.length % 8=0
     · simp only [if_pos h0]
       rw [List.getElem_append_left (by rw [packW_len];exact hq2)]
       exact(e4 _).symm
     · simp only [if_neg h0]
       exact(e4 _).symm
theorem packW_at(l:List UInt8)(q:Nat)(h:q<(packW l).length):(packW l)[q]=UInt8.ofNat (byteW l q):=by simp [packW]
theorem byteW_zero(l:List UInt8)(q:Nat)(h:l.length<=8*q):byteW l q=0:=by
 unfold byteW
 rw [bitD_out l _ (by omega),bitD_out l _ (by omega),bitD_out l _ (by omega),bitD_out l _ (by omega),bitD_out l _ (by omega),bitD_out l _ (by omega),bitD_out l _ (by omega),bitD_out l _ (by omega)]
def numB(x:Nat):List UInt8:=if h:x<128 then [UInt8.ofNat x]else UInt8.ofNat (128+x % 128)::numB (x / 128)
termination_by x
theorem numB_one(x:Nat)(h:x<128):numB x=[UInt8.ofNat x]:=by rw [numB,dif_pos h]
theorem numB_more(x:Nat)(h:¬x<128):numB x=UInt8.ofNat (128+x % 128)::numB (x / 128):=by rw [numB,dif_neg h]
theorem numB_len(k:Nat):∀ x,x<128 ^ (k+1)->(numB x).length<=k+1:=by
 induction k with
 | zero=>intro x h;rw [numB_one x (by omega)];simp
 | succ k ih=>
  intro x h
  by_cases h1:x<128
  · rw [numB_one x h1];simp
  · rw [numB_more x h1]
    have:=ih (x / 128) (by rw [Nat.pow_succ]at h;exact Nat.div_lt_of_lt_mul (by rw [Nat.mul_comm];exact h))
    simp;omega
theorem numB_le(x:Nat)(h:x<18446744073709551616):(numB x).length<=10:=
 numB_len 9 x (Nat.lt_of_lt_of_le h (by decide))
def textB(s:List UInt8):List UInt8:=numB s.length++s
def fixB:Nat->Nat->List UInt8
 | 0,_=>[]
 | n+1,x=>UInt8.ofNat (x % 256)::fixB n (x / 256)
theorem fixB_len(n:Nat):∀ x,(fixB n x).length=n:=by
 induction n with
 | zero=>intro x;rfl
 | succ n ih=>intro x;simp [fixB,ih]
theorem fixB_at(n:Nat):∀ (x i:Nat) (h:i<n),(fixB n x)[i]'(by rw [fixB_len];exact h)=UInt8.ofNat (x / 256 ^ i % 256):=by
 induction n with
 | zero=>intro x i h;omega
 | succ n ih=>
  intro x i h
  cases i with
  | zero=>simp [fixB]
  | succ i=>
   have:=ih (x / 256) i (by omega)
   simp only [fixB,List.getElem_cons_succ]
   rw [this,Nat.div_div_eq_div_mul,Nat.pow_succ,Nat.mul_comm]
def zigN(d:Nat):Nat:=if d<9223372036854775808 then 2*d else 2*(18446744073709551615 - d)+1
def wtS{α:Type}(f:α->Nat)(l:List α):Nat:=(l.map f).sum
theorem wtS_snoc{α:Type}(f:α->Nat)(l:List α)(k:Nat)(h:k<l.length):wtS f (l.take (k+1))=wtS f (l.take k)+f l[k]:=by
 unfold wtS;rw [List.take_succ_eq_append_getElem h,List.map_append,List.sum_append];simp
theorem wtS_le{α:Type}(f:α->Nat)(m:Nat)(l:List α)(h:∀ x∈l,f x<=m):wtS f l<=l.length*m:=by
 induction l with
 | nil=>simp [wtS]
 | cons x l ih=>
  have h1:=h x (List.mem_cons_self ..)
  have h2:=ih (fun y hy=>h y (List.mem_cons_of_mem _ hy))
  unfold wtS at *
  rw [List.map_cons,List.sum_cons,List.length_cons,Nat.add_mul];omega
theorem flat_map_snoc{α β:Type}(f:α->List β)(l:List α)(k:Nat)(h:k<l.length):((l.take (k+1)).map f).flatten=((l.take k).map f).flatten++f l[k]:=by
 rw [List.take_succ_eq_append_getElem h,List.map_append,List.flatten_append];simp
theorem flat_len{α β:Type}(f:α->List β)(l:List α):((l.map f).flatten).length=wtS (fun x=>(f x).length) l:=by
 induction l with
 | nil=>rfl
 | cons x l ih=>unfold wtS at *;simp [ih]
theorem wtS_take_le{α:Type}(f:α->Nat)(l:List α)(k:Nat):wtS f (l.take k)<=wtS f l:=by
 unfold wtS
 conv=>rhs;rw [<- List.take_append_drop k l]
 rw [List.map_append,List.sum_append];omega
theorem wtS_mono{α:Type}(f g:α->Nat)(l:List α)(h:∀ x∈l,f x<=g x):wtS f l<=wtS g l:=by
 induction l with
 | nil=>exact Nat.le_refl _
 | cons x l ih=>
  have h1:=h x (List.mem_cons_self ..)
  have h2:=ih (fun y hy=>h y (List.mem_cons_of_mem _ hy))
  unfold wtS at *
  simp only [List.map_cons,List.sum_cons];omega
def grpGo{α:Type}(S:Nat)(f:α->Nat):Nat->Nat->List α->List Nat
 | c,_,[]=>[c]
 | c,h,r::l=>if h+f r<=S then grpGo S f (c+1) (h+f r) l else c::grpGo S f 1 (f r) l
def groupsL{α:Type}(S:Nat)(f:α->Nat):List α->List Nat
 | []=>[]
 | r::l=>grpGo S f 1 (f r) l
theorem grpGo_sum{α:Type}(S:Nat)(f:α->Nat)(l:List α):∀ c h,(grpGo S f c h l).sum=c+l.length:=by
 induction l with
 | nil=>intro c h;simp [grpGo]
 | cons r l ih=>
  intro c h
  rw [grpGo]
  split
  · rw [ih,List.length_cons];omega
  · rw [List.sum_cons,ih,List.length_cons];omega
theorem groupsL_sum{α:Type}(S:Nat)(f:α->Nat)(l:List α):(groupsL S f l).sum=l.length:=by
 cases l with
 | nil=>rfl
 | cons r l=>rw [groupsL,grpGo_sum,List.length_cons];omega
theorem grpGo_pos{α:Type}(S:Nat)(f:α->Nat)(l:List α):∀ c h,1<=c->∀ x∈grpGo S f c h l,1<=x:=by
 induction l with
 | nil=>intro c h hc x hx;simp [grpGo]at hx;omega
 | cons r l ih=>
  intro c h hc x hx
  rw [grpGo]at hx
  split at hx
  · exact ih _ _ (by omega) x hx
  · rcases List.mem_cons.1 hx with rfl | hx
    · exact hc
    · exact ih _ _ (Nat.le_refl _) x hx
def dif64(t was:Nat):Nat:=(t+18446744073709551616 - was) % 18446744073709551616
theorem dif64_lt(t was:Nat):dif64 t was<18446744073709551616:=Nat.mod_lt _ (by decide)
def timesGo:Nat->List Nat->List UInt8
 | _,[]=>[]
 | was,t::l=>numB (zigN (dif64 t was))++timesGo t l
def lvGo:UInt8->Nat->List UInt8->List UInt8
 | x,c,[]=>x::numB c
 | x,c,y::l=>if y=x then lvGo x (c+1) l else(x::numB c)++lvGo y 1 l
def levelsL:List UInt8->List UInt8
 | []=>[]
 | x::l=>lvGo x 1 l
theorem levels_cons(l:List UInt8)(k:Nat)(h:k<l.length):levelsL (l.drop k)=lvGo l[k] 1 (l.drop (k+1)):=by rw [List.drop_eq_getElem_cons h];rfl
theorem lvGo_on(x:UInt8)(c:Nat)(l:List UInt8)(k:Nat)(h:k<l.length)(e:l[k]=x):lvGo x c (l.drop k)=lvGo x (c+1) (l.drop (k+1)):=by rw [List.drop_eq_getElem_cons h,lvGo,if_pos e]
theorem lvGo_off(x:UInt8)(c:Nat)(l:List UInt8)(k:Nat)(h:k<l.length)(e:l[k]≠x):lvGo x c (l.drop k)=(x::numB c)++levelsL (l.drop k):=by rw [List.drop_eq_getElem_cons h,lvGo,if_neg e];rfl
theorem lvGo_end(x:UInt8)(c:Nat)(l:List UInt8)(k:Nat)(h:l.length<=k):lvGo x c (l.drop k)=(x::numB c)++levelsL (l.drop k):=by rw [List.drop_of_length_le h];simp [lvGo,levelsL]
theorem timesGo_len(l:List Nat):∀ was,(timesGo was l).length<=l.length*10:=by
 induction l with
 | nil=>intro was;simp [timesGo]
 | cons t l ih=>
  intro was
  have h1:=ih t
  have h2:=numB_le (zigN (dif64 t was)) (by have:=dif64_lt t was;unfold zigN;split <;> omega)
  rw [timesGo,List.length_append,List.length_cons];omega
theorem lvGo_len(l:List UInt8):∀ x c,c+l.length<=1000000->(lvGo x c l).length<=(l.length+1)*11:=by
 induction l with
 | nil=>intro x c hc;have:=numB_le c (by simp at hc;omega);simp [lvGo];omega
 | cons y l ih=>
  intro x c hc
  rw [List.length_cons]at hc
  rw [lvGo]
  split
  · have:=ih x (c+1) (by omega);rw [List.length_cons];omega
  · have h1:=ih y 1 (by omega)
    have h2:=numB_le c (by omega)
    rw [List.length_append,List.length_cons,List.length_cons];omega
theorem levelsL_len(l:List UInt8)(h:l.length<=900000):(levelsL l).length<=l.length*11:=by
 cases l with
 | nil=>simp [levelsL]
 | cons x l=>have:=lvGo_len l x 1 (by rw [List.length_cons]at h;omega);rw [levelsL,List.length_cons];exact this
def risesGo(bound:Nat):Nat->List Nat->Bool
 | _,[]=>true
 | lo,x::l=>decide (lo<=x) && decide (x<bound) && risesGo bound (x+1) l
theorem rises_cons(bound lo:Nat)(l:List Nat)(k:Nat)(h:k<l.length):risesGo bound lo (l.drop k)=(decide (lo<=l[k]) && decide (l[k]<bound) && risesGo bound (l[k]+1) (l.drop (k+1))):=by
 rw [List.drop_eq_getElem_cons h,risesGo]
theorem rises_lt(bound:Nat)(l:List Nat):∀ lo,risesGo bound lo l=true->∀ x∈l,x<bound:=by
 induction l with
 | nil=>intro lo _ x hx;simp at hx
 | cons y l ih=>
  intro lo h x hx
  rw [risesGo]at h
  simp only [Bool.and_eq_true,decide_eq_true_eq]at h
  rcases List.mem_cons.1 hx with rfl | hx
  · exact h.1.2
  · exact ih _ h.2 x hx
theorem rises_len(bound:Nat)(l:List Nat):∀ lo,lo<=bound->risesGo bound lo l=true->lo+l.length<=bound:=by
 induction l with
 | nil=>intro lo h _;simpa using h
 | cons y l ih=>
  intro lo hlo h
  rw [risesGo]at h
  simp only [Bool.and_eq_true,decide_eq_true_eq]at h
  have:=ih (y+1) (by omega) h.2
  rw [List.length_cons];omega
def efLow(w:Nat)(l:List Nat):List UInt8:=(l.map fun x=>bitsL (x % 2 ^ w) w).flatten
theorem efLow_snoc(w:Nat)(l:List Nat)(k:Nat)(h:k<l.length):efLow w (l.take (k+1))=efLow w (l.take k)++bitsL (l[k] % 2 ^ w) w:=by
 unfold efLow;exact flat_map_snoc _ l k h
theorem efLow_len(w:Nat)(l:List Nat):(efLow w l).length=l.length*w:=by
 induction l with
 | nil=>simp [efLow]
 | cons x l ih=>simp only [efLow,List.map_cons,List.flatten_cons,List.length_append,bitsL_len]at *;rw [ih,List.length_cons,Nat.add_mul];omega
def efHigh(w:Nat):Nat->List Nat->List UInt8
 | _,[]=>[]
 | was,x::l=>unaryL (x / 2 ^ w - was)++efHigh w (x / 2 ^ w) l
theorem efHigh_cons(w was:Nat)(l:List Nat)(k:Nat)(h:k<l.length):efHigh w was (l.drop k)=unaryL (l[k] / 2 ^ w - was)++efHigh w (l[k] / 2 ^ w) (l.drop (k+1)):=by
 rw [List.drop_eq_getElem_cons h,efHigh]
theorem unaryL_len(n:Nat):(unaryL n).length=n+1:=by simp [unaryL]
def efL(bound:Nat)(l:List Nat):List UInt8:=
 numB l.length++if l=[]then []else packW (efLow (Nat.log2 (bound / l.length)) l++efHigh (Nat.log2 (bound / l.length)) 0 l)
theorem log2_le(q k:Nat)(h1:2 ^ k<=q)(h2:q<2 ^ (k+1)):Nat.log2 q=k:=(Nat.log2_eq_iff (by have:=Nat.two_pow_pos k;omega)).2 ⟨h1,h2⟩
theorem getD_at{α:Type}(l:List α)(i:Nat)(d:α)(h:i<l.length):l.getD i d=l[i]:=by
 rw [List.getD_eq_getElem?_getD,List.getElem?_eq_getElem h];rfl
def addP(l1:List UInt8)(c:Nat)(b:List UInt8):List UInt8:=l1.zipWith (fun x y=>UInt8.ofNat (x.toNat ^^^ mulN c y.toNat)) b
def rowT(M:List UInt8)(C i:Nat)(ds:List (List UInt8))(L:Nat):Nat->List UInt8
 | 0=>List.replicate L 0
 | j+1=>addP (rowT M C i ds L j) (M.getD (i*C+j) 0).toNat (ds.getD j [])
def timesL(M:List UInt8)(C R:Nat)(ds:List (List UInt8))(L:Nat):List (List UInt8):=(List.range R).map fun i=>rowT M C i ds L C
theorem rowT_len(M:List UInt8)(C i:Nat)(ds:List (List UInt8))(L j:Nat)(hl:∀ p∈ds,p.length=L)(hj:j<=ds.length):(rowT M C i ds L j).length=L:=by
 induction j with
 | zero=>simp [rowT]
 | succ j ih=>
  have h1:=ih (by omega)
  have h2:(ds.getD j []).length=L:=by
   rw [List.getD_eq_getElem?_getD,List.getElem?_eq_getElem (by omega)]
   exact hl _ (List.getElem_mem _)
  rw [rowT,addP,List.length_zipWith,h1,h2,Nat.min_self]
theorem timesL_len(M:List UInt8)(C R:Nat)(ds:List (List UInt8))(L:Nat):(timesL M C R ds L).length=R:=by simp [timesL]
theorem addP_len(l1 b:List UInt8)(c:Nat)(h:l1.length=b.length):(addP l1 c b).length=l1.length:=by unfold addP;rw [List.length_zipWith];omega
theorem addP_zero(l b:List UInt8)(h:l.length=b.length):addP l 0 b=l:=by
 apply List.ext_getElem
 · simp [addP,h]
 · intro i h1 h2
   simp [addP,nil_mul]
theorem addP_at(l b:List UInt8)(c i:Nat)(h1:i<l.length)(h2:i<b.length)(h3:i<(addP l c b).length):(addP l c b)[i]=UInt8.ofNat (l[i].toNat ^^^ mulN c b[i].toNat):=by
 simp [addP]
def cellT(M:List UInt8)(C i:Nat)(ds:List (List UInt8))(n:Nat):Nat->Nat
 | 0=>0
 | j+1=>cellT M C i ds n j ^^^ mulN (M.getD (i*C+j) 0).toNat ((ds.getD j []).getD n 0).toNat
theorem timesL_at(M:List UInt8)(C R:Nat)(ds:List (List UInt8))(L i:Nat)(hi:i<R)(h:i<(timesL M C R ds L).length):(timesL M C R ds L)[i]=rowT M C i ds L C:=by
 simp [timesL]
def dR(lv:List It):Nat->Nat->Nat->Nat
 | 0,_,_=>0
 | q+1,t,s=>(symsI (lv.take (leavesN ((rowI lv q).take t)))).count s+dR lv q (2*(t - leavesN ((rowI lv q).take t))) s
theorem dR_down(lv:List It)(s:Nat):∀ r t,dR lv (r+1) t s=downI lv r t s:=by
 intro r
 induction r with
 | zero=>intro t;rw [dR,dR,downI];rfl
 | succ r ih=>intro t;rw [dR,ih,downI]
theorem dR_all(lv:List It)(hl:∀ x∈lv,x.leaf=true)(r t s:Nat)(h:t<=(rowI lv r).length):dR lv (r+1) t s=(symsI ((rowI lv r).take t)).count s:=by
 rw [dR_down,<- down_eq lv hl s r t h]
theorem leavesN_snoc(l:List It)(k:Nat)(h:k<l.length):leavesN (l.take (k+1))=leavesN (l.take k)+if l[k].leaf then 1 else 0:=by
 unfold leavesN
 rw [List.take_succ_eq_append_getElem h,List.filter_append,List.length_append]
 by_cases c:l[k].leaf=true
 · rw [List.filter_cons_of_pos (p:=fun x:It=>x.leaf) c,if_pos c];rfl
 · rw [List.filter_cons_of_neg (p:=fun x:It=>x.leaf) c,if_neg c];rfl
theorem symsI_snoc(l:List It)(k:Nat)(h:k<l.length)(s:Nat)(hs:l[k].syms=[s]):symsI (l.take (k+1))=symsI (l.take k)++[s]:=by
 rw [List.take_succ_eq_append_getElem h,symsI_app]
 show _++(l[k].syms++[])=_
 rw [hs];rfl
theorem leaves_room(lv:List It)(hl:∀ x∈lv,x.leaf=true)(q t:Nat)(h:t<=(rowI lv q).length):leavesN ((rowI lv q).take t)<=t/\leavesN ((rowI lv q).take t)<=lv.length/\(0<q->2*(t - leavesN ((rowI lv q).take t))<=(rowI lv (q - 1)).length):=by
 cases q with
 | zero=>
  have h1:=leavesN_le (lv.take t)
  rw [List.length_take]at h1
  refine⟨?_,?_,fun h=>by omega⟩
  · show leavesN (lv.take t)<=t;omega
  · show leavesN (lv.take t)<=lv.length;omega
 | succ r=>
  obtain⟨h1,h2,h3⟩:=down_room lv hl r t h
  exact⟨h1,h2,fun _=>h3⟩
theorem leavesN_mono(l:List It)(j t:Nat)(h:j<=t):leavesN (l.take j)<=leavesN (l.take t):=by
 unfold leavesN
 have:l.take j=(l.take t).take j:=by rw [List.take_take,Nat.min_eq_left h]
 rw [this]
 exact List.Sublist.length_le ((List.take_sublist _ _).filter _)
def bitU(x:Nat):Nat:=if x % 2=1 then(x / 2) ^^^ 3988292384 else x / 2
def byteU(x c:Nat):Nat:=bitU (bitU (bitU (bitU (bitU (bitU (bitU (bitU (x ^^^ c))))))))
def crcGo(x:Nat)(l:List UInt8):Nat:=l.foldl (fun x c=>byteU x c.toNat) x
def sumU(l:List UInt8):Nat:=4294967295 - crcGo 4294967295 l
def tabU(i:Nat):Nat:=bitU (bitU (bitU (bitU i)))
theorem bitU_xor(a b:Nat):bitU (a ^^^ b)=bitU a ^^^ bitU b:=by
 have h:=bit_xor a b 0
 simp only [Nat.pow_zero,Nat.div_one]at h
 unfold bitU
 rw [Nat.xor_div_two]
 by_cases h1:a % 2=1 <;> by_cases h2:b % 2=1
 · rw [if_neg (by rw [h];simp [h1,h2]),if_pos h1,if_pos h2,xor_cross,Nat.xor_self,Nat.xor_zero]
 · rw [if_pos (by rw [h];simp [h1,h2]),if_pos h1,if_neg h2,Nat.xor_assoc,Nat.xor_assoc,Nat.xor_comm (b / 2)]
 · rw [if_pos (by rw [h];simp [h1,h2]),if_neg h1,if_pos h2,Nat.xor_assoc]
 · rw [if_neg (by rw [h];simp [h1,h2]),if_neg h1,if_neg h2]
theorem bitU_lt(x:Nat)(h:x<4294967296):bitU x<4294967296:=by
 unfold bitU
 have h1:x / 2<2 ^ 32:=by omega
 split
 · exact Nat.xor_lt_two_pow h1 (by decide)
 · omega
theorem split16(x:Nat):x=(x / 16*16) ^^^ (x % 16):=by
 apply Nat.eq_of_testBit_eq
 intro j
 rw [Nat.testBit_xor,show(16:Nat)=2 ^ 4 from rfl,Nat.testBit_mul_two_pow,Nat.testBit_mod_two_pow,Nat.testBit_div_two_pow]
 by_cases h:4<=j
 · rw [show j - 4+4=j by omega];simp [h];rw [decide_eq_false (by omega:¬j<4)];simp
 · simp [h];omega
theorem tab_step(x:Nat):bitU (bitU (bitU (bitU x)))=(x / 16) ^^^ tabU (x % 16):=by
 have e:bitU (bitU (bitU (bitU x)))=bitU (bitU (bitU (bitU ((x / 16*16) ^^^ (x % 16))))):=by rw [<- split16]
 rw [e,bitU_xor,bitU_xor,bitU_xor,bitU_xor]
 have h:∀ y,bitU (2*y)=y:=fun y=>by unfold bitU;rw [if_neg (by omega)];omega
 rw [show x / 16*16=2*(2*(2*(2*(x / 16)))) by omega,h,h,h,h]
 rfl
theorem byte_nib(x c:Nat):byteU x c=((x ^^^ c) / 16 ^^^ tabU ((x ^^^ c) % 16)) / 16 ^^^ tabU (((x ^^^ c) / 16 ^^^ tabU ((x ^^^ c) % 16)) % 16):=by
  unfold byteU
  rw [tab_step (x ^^^ c),tab_step]
theorem tabU_lt(i:Nat)(h:i<16):tabU i<4294967296:=bitU_lt _ (bitU_lt _ (bitU_lt _ (bitU_lt _ (by omega))))
theorem byteU_lt(x c:Nat)(hx:x<4294967296)(hc:c<256):byteU x c<4294967296:=by
 have:x ^^^ c<2 ^ 32:=Nat.xor_lt_two_pow hx (by omega)
 exact bitU_lt _ (bitU_lt _ (bitU_lt _ (bitU_lt _ (bitU_lt _ (bitU_lt _ (bitU_lt _ (bitU_lt _ this)))))))
theorem crcGo_lt(l:List UInt8):∀ x,x<4294967296->crcGo x l<4294967296:=by
 induction l with
 | nil=>intro x h;exact h
 | cons c l ih=>intro x h;exact ih _ (byteU_lt x _ h c.toNat_lt)
theorem crcGo_snoc(x:Nat)(l:List UInt8)(k:Nat)(h:k<l.length):crcGo x (l.take (k+1))=byteU (crcGo x (l.take k)) (l[k]).toNat:=by
 unfold crcGo
 rw [List.take_succ_eq_append_getElem h,List.foldl_append];rfl
theorem crcGo_app(x:Nat)(a b:List UInt8):crcGo x (a++b)=crcGo (crcGo x a) b:=by unfold crcGo;rw [List.foldl_append]
def putB(l:List UInt8):List UInt8:=l++[UInt8.ofNat (sumU l % 256),UInt8.ofNat (sumU l / 256 % 256),UInt8.ofNat (sumU l / 65536 % 256),UInt8.ofNat (sumU l / 16777216 % 256)]
theorem sumU_lt(l:List UInt8):sumU l<4294967296:=by unfold sumU;omega
def cutP(l:List UInt8)(at_ n:Nat):List UInt8:=(List.range n).map fun i=>l.getD (at_+i) 0
theorem cutP_len(l:List UInt8)(a n:Nat):(cutP l a n).length=n:=by simp [cutP]
def partsS(l:List UInt8)(c a k:Nat):List (List UInt8):=(List.range k).map fun i=>cutP l (a+i*c) c
theorem partsS_len(l:List UInt8)(c a k:Nat):(partsS l c a k).length=k:=by simp [partsS]
theorem partsS_all(l:List UInt8)(c a k:Nat):∀ p∈partsS l c a k,p.length=c:=by
 intro p hp
 simp only [partsS,List.mem_map]at hp
 obtain⟨i,_,rfl⟩:=hp
 exact cutP_len _ _ _
def putsL(ls:List (List UInt8)):List UInt8:=(ls.map putB).flatten
theorem putsL_snoc(ls:List (List UInt8))(p:List UInt8):putsL (ls++[p])=putsL ls++putB p:=by simp [putsL]
theorem putsL_app(a b:List (List UInt8)):putsL (a++b)=putsL a++putsL b:=by simp [putsL]
theorem putB_len(p:List UInt8):(putB p).length=p.length+4:=by simp [putB]
theorem putsL_len(ls:List (List UInt8))(c:Nat)(h:∀ p∈ls,p.length=c):(putsL ls).length=ls.length*(c+4):=by
 induction ls with
 | nil=>simp [putsL]
 | cons p ls ih=>
  have:putsL (p::ls)=putB p++putsL ls:=by simp [putsL]
  rw [this,List.length_append,putB_len,ih (fun q hq=>h q (List.mem_cons_of_mem _ hq)),h p (List.mem_cons_self ..),List.length_cons,Nat.add_mul]
  omega
def padL(l:List UInt8)(n:Nat):List UInt8:=l++(List.replicate n 0).drop l.length
theorem padL_len(l:List UInt8)(n:Nat)(h:l.length<=n):(padL l n).length=n:=by simp [padL];omega
theorem padL_at(l:List UInt8)(n i:Nat):(padL l n).getD i 0=l.getD i 0:=by
 unfold padL
 rw [List.getD_eq_getElem?_getD,List.getD_eq_getElem?_getD]
 by_cases h:i<l.length
 · rw [List.getElem?_append_left h]
 · rw [List.getElem?_append_right (by omega),List.getElem?_eq_none (l:=l) (by omega),List.getElem?_drop,List.getElem?_replicate]
   split <;> rfl
theorem part_eq(l:List UInt8)(n A d j c:Nat)(hl:l.length<=n)(hA:A+d<=n)(hj:j+c<=d):((((padL l n).drop A).take d).drop j).take c=cutP l (A+j) c:=by
  have hp:=padL_len l n hl
  apply List.ext_getElem
  · rw [cutP_len,List.length_take,List.length_drop,List.length_take,List.length_drop,hp];omega
  · intro i h1 h2
    rw [cutP_len]at h2
    have e:=padL_at l n (A+j+i)
    rw [getD_at _ _ _ (by rw [hp];omega)]at e
    simp only [cutP,List.getElem_take,List.getElem_drop,List.getElem_map,List.getElem_range]
    rw [<- e]
    congr 1
    omega
end Go.Fk
