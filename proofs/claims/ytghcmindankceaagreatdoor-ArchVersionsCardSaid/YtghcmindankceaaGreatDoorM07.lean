/- Parts of the proof of ArchVersions: SpecH SpecK2 SpecY SpecE SpecR SpecS SpecS2 SpecS3. -/
import Derived.Test.YtghcmindankceaaGreatDoorM06
set_option linter.unusedVariables false
set_option linter.unusedSectionVars false
set_option linter.unusedSimpArgs false
set_option maxHeartbeats 8000000
namespace Go.Fk
def fM(lens:List UInt8)(s l:Nat):Nat:=if cntK (lens.take s) l=0 then 0 else firstK lens l % 65536
def sM(lens:List UInt8)(s l:Nat):List Nat:=(List.range s).filter fun i=>(lens.getD i 0).toNat == l
theorem sM_zero(lens:List UInt8)(l:Nat):sM lens 0 l=[]:=rfl
theorem fM_zero(lens:List UInt8)(l:Nat):fM lens 0 l=0:=by simp [fM,cntK_nil]
theorem sM_succ(lens:List UInt8)(s l:Nat)(h:s<lens.length):sM lens (s+1) l=sM lens s l++if lens[s].toNat=l then [s]else []:=by
 have e:lens.getD s 0=lens[s]:=by rw [List.getD_eq_getElem?_getD,List.getElem?_eq_getElem h];rfl
 unfold sM
 rw [List.range_succ,List.filter_append]
 congr 1
 simp only [List.filter_cons,List.filter_nil,e]
 by_cases h2:lens[s].toNat=l <;> simp [h2]
theorem sM_len(lens:List UInt8)(s l:Nat)(h:s<=lens.length):(sM lens s l).length=cntK (lens.take s) l:=by
 induction s with
 | zero=>simp [sM,cntK_nil]
 | succ s ih=>
  rw [sM_succ lens s l h,List.length_append,ih (by omega),cntK_take _ _ _ h]
  split <;> rfl
theorem fM_succ(lens:List UInt8)(s l:Nat)(h:s<lens.length):fM lens (s+1) l=if lens[s].toNat=l then firstK lens l % 65536 else fM lens s l:=by
 unfold fM
 rw [cntK_take _ _ _ h]
 by_cases h2:lens[s].toNat=l
 · rw [if_pos h2,if_pos h2,if_neg (by omega)]
 · rw [if_neg h2,if_neg h2];rfl
theorem first_code(lens:List UInt8)(s:Nat)(h:s<lens.length)(h0:lens[s]≠0)(hc:cntK (lens.take s) lens[s].toNat=0):(codesK lens)[s]'(by rw [codesK_len];exact h)=firstK lens lens[s].toNat % 65536:=by
 rw [codesK_at lens s h,if_neg h0];unfold valK;rw [hc,Nat.add_zero]
theorem first_stays(lens:List UInt8)(s l:Nat)(hc:cntK (lens.take s) l≠0):fM lens s l=firstK lens l % 65536:=by unfold fM;rw [if_neg hc]
def symL(lens:List UInt8)(s:Nat):Nat:=(lens.getD s 0).toNat
theorem symL_at(lens:List UInt8)(s:Nat)(h:s<lens.length):symL lens s=lens[s].toNat:=by
 unfold symL;rw [List.getD_eq_getElem?_getD,List.getElem?_eq_getElem h];rfl
theorem symL_out(lens:List UInt8)(s:Nat)(h:lens.length<=s):symL lens s=0:=by
 unfold symL;rw [List.getD_eq_getElem?_getD,List.getElem?_eq_none h];rfl
def bitK(lens:List UInt8)(s:Nat):List UInt8:=if symL lens s=0 then []else bitsL ((codesK lens).getD s 0) (symL lens s)
theorem bitK_none(lens:List UInt8)(s:Nat)(h:symL lens s=0):bitK lens s=[]:=if_pos h
theorem bitK_some(lens:List UInt8)(s:Nat)(h:symL lens s≠0):bitK lens s=bitsL ((codesK lens).getD s 0) (symL lens s):=if_neg h
theorem bitK_len(lens:List UInt8)(s:Nat)(h:∀ c∈lens,c.toNat<=15):(bitK lens s).length<=15:=by
 unfold bitK
 split
 · simp
 · rename_i h2
   rw [bitsL_len]
   by_cases hs:s<lens.length
   · rw [symL_at lens s hs];exact h _ (List.getElem_mem hs)
   · rw [symL_out lens s (by omega)]at h2;exact absurd rfl h2
theorem codesK_get(lens:List UInt8)(s:Nat)(h:s<lens.length):(codesK lens).getD s 0=(codesK lens)[s]'(by rw [codesK_len];exact h):=by
 rw [List.getD_eq_getElem?_getD,List.getElem?_eq_getElem];rfl
theorem code_lt(lens:List UInt8)(hk:okK lens=true)(hl:∀ c∈lens,c.toNat<=15)(s:Nat)(h:s<lens.length)(h0:lens[s]≠0):(codesK lens)[s]'(by rw [codesK_len];exact h)<2 ^ lens[s].toNat:=by
 rw [codesK_at lens s h,if_neg h0]
 exact Nat.lt_of_le_of_lt (Nat.mod_le _ _) (valK_lt lens hk hl s h h0)
theorem code16(lens:List UInt8)(s:Nat)(h:s<(codesK lens).length):(codesK lens)[s]<65536:=by
 rw [codesK_at lens s (by rw [codesK_len]at h;exact h)]
 split
 · omega
 · exact Nat.mod_lt _ (by omega)
def zrun:List UInt8->Nat->Nat
 | [],_=>0
 | _::_,0=>0
 | c::l,k+1=>if c=0 then zrun l k+1 else 0
theorem zrun_le(l:List UInt8):∀ k,zrun l k<=k/\zrun l k<=l.length:=by
 induction l with
 | nil=>intro k;simp [zrun]
 | cons c l ih=>
  intro k
  cases k with
  | zero=>simp [zrun]
  | succ k=>
   rw [zrun]
   have:=ih k
   split
   · rw [List.length_cons];omega
   · omega
theorem zrun_zero(l:List UInt8):zrun l 0=0:=by cases l <;> rfl
def wrGo:List UInt8->List UInt8
 | []=>[]
 | c::r=>if c=0 then bitsL 0 4++(bitsL (zrun r 63) 6++wrGo (r.drop (zrun r 63)))else bitsL c.toNat 4++wrGo r
termination_by l=>l.length
decreasing_by
 · rw [List.length_drop,List.length_cons];omega
 · rw [List.length_cons];omega
theorem wrGo_nil:wrGo []=[]:=by rw [wrGo]
theorem wrGo_zero(r:List UInt8)(c:UInt8)(h:c=0):wrGo (c::r)=bitsL 0 4++(bitsL (zrun r 63) 6++wrGo (r.drop (zrun r 63))):=by rw [wrGo,if_pos h]
theorem wrGo_one(r:List UInt8)(c:UInt8)(h:c≠0):wrGo (c::r)=bitsL c.toNat 4++wrGo r:=by rw [wrGo,if_neg h]
theorem wrGo_len:∀ (n:Nat) (l:List UInt8),l.length<=n->(wrGo l).length<=10*l.length:=by
 intro n
 induction n with
 | zero=>intro l h;rw [List.eq_nil_of_length_eq_zero (Nat.le_zero.1 h),wrGo_nil];simp
 | succ n ih=>
  intro l h
  cases l with
  | nil=>rw [wrGo_nil];simp
  | cons c r=>
   rw [List.length_cons]at h
   by_cases hc:c=0
   · rw [wrGo_zero r c hc,List.length_append,List.length_append,bitsL_len,bitsL_len]
     have h1:=ih (r.drop (zrun r 63)) (by rw [List.length_drop];omega)
     have h2:=(zrun_le r 63).2
     rw [List.length_drop]at h1
     rw [List.length_cons];omega
   · rw [wrGo_one r c hc,List.length_append,bitsL_len]
     have h1:=ih r (by omega)
     rw [List.length_cons];omega
theorem zrun_on(l:List UInt8)(i k:Nat)(h:i<l.length)(h0:l[i]=0):zrun (l.drop i) (k+1)=zrun (l.drop (i+1)) k+1:=by
 rw [List.drop_eq_getElem_cons h,zrun,if_pos h0]
theorem zrun_off(l:List UInt8)(i k:Nat)(h:i<l.length)(h0:l[i]≠0):zrun (l.drop i) k=0:=by
 rw [List.drop_eq_getElem_cons h]
 cases k with
 | zero=>rfl
 | succ k=>rw [zrun,if_neg h0]
theorem zrun_end(l:List UInt8)(i k:Nat)(h:l.length<=i):zrun (l.drop i) k=0:=by rw [List.drop_eq_nil_of_le h];rfl
def clsK(v:Nat):Nat:=Nat.log2 v
def rstK(v:Nat):Nat:=v - 2 ^ Nat.log2 v
theorem cls_le(v:Nat)(h:1<=v):2 ^ clsK v<=v:=Nat.log2_self_le (by omega)
theorem cls_lt(v:Nat):v<2 ^ (clsK v+1):=Nat.lt_log2_self
theorem rst_lt(v:Nat)(h:1<=v):rstK v<2 ^ clsK v:=by
 have h1:=cls_le v h
 have h2:=cls_lt v
 unfold rstK clsK at *
 rw [Nat.pow_succ]at h2;omega
theorem cls_small(v k:Nat)(h:1<=v)(h2:v<2 ^ k):clsK v<k:=by
 have h1:=cls_le v h
 exact(Nat.pow_lt_pow_iff_right (by omega)).1 (Nat.lt_of_le_of_lt h1 h2)
structure Pce where
 sym:Nat
 len:Nat
 dist:Nat
 far:Nat
 deriving DecidableEq
def pieceK(t:Tok):Pce:=if t.len=0 then⟨t.lit.toNat,0,0,0⟩else⟨257+clsK (t.len - 2),rstK (t.len - 2),clsK t.dist,rstK t.dist⟩
theorem mayT_len(t:Tok)(h:mayT t=true)(h0:t.len≠0):t.lit=0/\3<=t.len/\t.len<=257/\1<=t.dist/\t.dist<=4095:=by
 unfold mayT at h
 rw [if_neg h0]at h
 simp only [Bool.and_eq_true,decide_eq_true_eq]at h
 exact⟨h.1.1.1.1,h.1.1.1.2,h.1.1.2,h.1.2,h.2⟩
theorem piece_bounds(t:Tok)(h:mayT t=true):(pieceK t).sym<265/\(pieceK t).dist<12/\(pieceK t).len<256/\(pieceK t).far<4096/\((pieceK t).sym<256↔t.len=0)/\(t.len≠0->257<=(pieceK t).sym):=by
 unfold pieceK
 by_cases h0:t.len=0
 · rw [if_pos h0]
   have:=t.lit.toNat_lt
   exact⟨by show t.lit.toNat<265;omega,by show 0<12;omega,by show 0<256;omega,by show 0<4096;omega,by show t.lit.toNat<256↔_;omega,fun h=>absurd h0 h⟩
 · rw [if_neg h0]
   obtain⟨_,h1,h2,h3,h4⟩:=mayT_len t h h0
   have c1:=cls_small (t.len - 2) 8 (by omega) (by have:(2:Nat) ^ 8=256:=rfl;omega)
   have c2:=cls_small t.dist 12 h3 (by have:(2:Nat) ^ 12=4096:=rfl;omega)
   have r1:rstK (t.len - 2)<=t.len - 2:=Nat.sub_le _ _
   have r2:rstK t.dist<=t.dist:=Nat.sub_le _ _
   exact⟨by show 257+clsK (t.len - 2)<265;omega,c2,by show rstK _<256;omega,by show rstK _<4096;omega,by show 257+clsK (t.len - 2)<256↔_;omega,fun _=>by show 257<=257+_;omega⟩
def symsN(l:List Tok)(k:Nat):Nat:=l.countP fun t=>(pieceK t).sym == k
def farsN(l:List Tok)(k:Nat):Nat:=l.countP fun t=>decide (t.len≠0) && ((pieceK t).dist == k)
theorem symsN_snoc(l:List Tok)(t:Tok)(k:Nat):symsN (l++[t]) k=symsN l k+if(pieceK t).sym=k then 1 else 0:=by simp [symsN,List.countP_append,List.countP_cons]
theorem farsN_snoc(l:List Tok)(t:Tok)(k:Nat):farsN (l++[t]) k=farsN l k+if t.len≠0/\(pieceK t).dist=k then 1 else 0:=by simp [farsN,List.countP_append,List.countP_cons]
theorem symsN_le(l:List Tok)(k:Nat):symsN l k<=l.length:=List.countP_le_length
theorem farsN_le(l:List Tok)(k:Nat):farsN l k<=l.length:=List.countP_le_length
def symsL(l:List Tok):List Nat:=(List.range 265).map fun k=>symsN l k+if k=256 then 1 else 0
def farsL(l:List Tok):List Nat:=(List.range 12).map (farsN l)
def wrK(a:List UInt8):List UInt8:=if okK a then wrGo a else []
def ptK(a:List UInt8)(s:Nat):List UInt8:=if okK a then bitK a s else []
def tokK(a b:List UInt8)(t:Tok):List UInt8:=
 ptK a (pieceK t).sym++if t.len=0 then []else bitsL (pieceK t).len ((pieceK t).sym - 257)++(ptK b (pieceK t).dist++bitsL (pieceK t).far (pieceK t).dist)
def risesGo(bound:Nat):Nat->List Nat->Bool
 | _,[]=>true
 | lo,x::l=>decide (lo<=x) && decide (x<bound) && risesGo bound (x+1) l
def efLow(w:Nat)(l:List Nat):List UInt8:=(l.map fun x=>bitsL (x % 2 ^ w) w).flatten
def efHigh(w:Nat):Nat->List Nat->List UInt8
 | _,[]=>[]
 | was,x::l=>unaryL (x / 2 ^ w - was)++efHigh w (x / 2 ^ w) l
def efL(bound:Nat)(l:List Nat):List UInt8:=
 numB l.length++if l=[]then []else packW (efLow (Nat.log2 (bound / l.length)) l++efHigh (Nat.log2 (bound / l.length)) 0 l)
theorem log2_le(q k:Nat)(h1:2 ^ k<=q)(h2:q<2 ^ (k+1)):Nat.log2 q=k:=(Nat.log2_eq_iff (by have:=Nat.two_pow_pos k;omega)).2 ⟨h1,h2⟩
theorem getD_at{α:Type}(l:List α)(i:Nat)(d:α)(h:i<l.length):l.getD i d=l[i]:=by
 rw [List.getD_eq_getElem?_getD,List.getElem?_eq_getElem h];rfl
def addP(l1:List UInt8)(c:Nat)(b:List UInt8):List UInt8:=l1.zipWith (fun x y=>UInt8.ofNat (x.toNat ^^^ mulN c y.toNat)) b
def rowT(M:List UInt8)(C i:Nat)(ds:List (List UInt8))(L:Nat):Nat->List UInt8
 | 0=>List.replicate L 0
 | j+1=>addP (rowT M C i ds L j) (M.getD (i*C+j) 0).toNat (ds.getD j [])
def timesL(M:List UInt8)(C R:Nat)(ds:List (List UInt8))(L:Nat):List (List UInt8):=(List.range R).map fun i=>rowT M C i ds L C
def cellT(M:List UInt8)(C i:Nat)(ds:List (List UInt8))(n:Nat):Nat->Nat
 | 0=>0
 | j+1=>cellT M C i ds n j ^^^ mulN (M.getD (i*C+j) 0).toNat ((ds.getD j []).getD n 0).toNat
def ltK(key:Nat->Nat)(a b:Nat):Prop:=key a<key b\/(key a=key b/\a<b)
theorem ltK_trans{key:Nat->Nat}{a b c:Nat}(h:ltK key a b)(k:ltK key b c):ltK key a c:=by unfold ltK at *;omega
theorem ltK_asymm{key:Nat->Nat}{a b:Nat}(h:ltK key a b):¬ltK key b a:=by unfold ltK at *;omega
abbrev SrtK(key:Nat->Nat)(l:List Nat):Prop:=l.Pairwise (ltK key)
theorem srtK_unique{key:Nat->Nat}{l m:List Nat}(hp:l.Perm m)(h1:SrtK key l)(h2:SrtK key m):l=m:=
 hp.eq_of_pairwise (fun _ _ _ _ h k=>absurd k (ltK_asymm h)) h1 h2
def downTo(f:Nat->Bool):Nat->Nat
 | 0=>0
 | n+1=>if f n then downTo f n else n+1
theorem downTo_le(f:Nat->Bool)(n:Nat):downTo f n<=n:=by
 induction n with
 | zero=>exact Nat.le_refl _
 | succ n ih=>rw [downTo];split <;> omega
theorem downTo_pass(f:Nat->Bool)(n:Nat):∀ i,downTo f n<=i->i<n->f i=true:=by
 induction n with
 | zero=>intro i _ h;omega
 | succ n ih=>
  intro i h1 h2
  rw [downTo]at h1
  split at h1
  · by_cases e:i=n
    · subst e;assumption
    · exact ih i h1 (by omega)
  · omega
theorem downTo_stop(f:Nat->Bool)(n:Nat)(h:downTo f n≠0):f (downTo f n - 1)=false:=by
 induction n with
 | zero=>exact absurd rfl h
 | succ n ih=>
  rw [downTo]at h ⊢
  split
  · rename_i hf;rw [if_pos hf]at h;exact ih h
  · rename_i hf;simpa using hf
def putK(key:Nat->Nat)(l:List Nat)(x:Nat):List Nat:=
 l.take (downTo (fun i=>decide (key x<key (l.getD i 0))) l.length)++x::l.drop (downTo (fun i=>decide (key x<key (l.getD i 0))) l.length)
theorem putK_perm(key:Nat->Nat)(l:List Nat)(x:Nat):(putK key l x).Perm (x::l):=by
 unfold putK
 refine List.perm_middle.trans ?_
 rw [List.take_append_drop]
theorem putK_srt(key:Nat->Nat)(l:List Nat)(x:Nat)(hs:SrtK key l)(hx:∀ y∈l,y<x):SrtK key (putK key l x):=by
 unfold putK
 have hd:=downTo_le (fun i=>decide (key x<key (l.getD i 0))) l.length
 have hpass:=downTo_pass (fun i=>decide (key x<key (l.getD i 0))) l.length
 have hstop:=downTo_stop (fun i=>decide (key x<key (l.getD i 0))) l.length
 generalize downTo (fun i=>decide (key x<key (l.getD i 0))) l.length=d at *
 have h1:∀ y∈l.take d,ltK key y x:=by
  intro y hy
  obtain⟨i,hi,rfl⟩:=List.getElem_of_mem hy
  have hi':i<d:=by have:=hi;rw [List.length_take]at this;omega
  have hil:i<l.length:=by omega
  rw [List.getElem_take]
  have hst:=hstop (by omega)
  simp only [decide_eq_false_iff_not,Nat.not_lt,List.getD_eq_getElem?_getD,List.getElem?_eq_getElem (show d - 1<l.length by omega),Option.getD_some]at hst
  have hle:key l[i]<=key (l[d - 1]'(by omega)):=by
   by_cases e:i=d - 1
   · subst e;exact Nat.le_refl _
   · have:=List.pairwise_iff_getElem.1 hs i (d - 1) hil (by omega) (by omega)
     unfold ltK at this;omega
  have:=hx l[i] (List.getElem_mem hil)
  unfold ltK;omega
 have h2:∀ y∈l.drop d,ltK key x y:=by
  intro y hy
  obtain⟨i,hi,rfl⟩:=List.getElem_of_mem hy
  have hi':d+i<l.length:=by have:=hi;rw [List.length_drop]at this;omega
  rw [List.getElem_drop]
  have:=hpass (d+i) (by omega) hi'
  simp only [decide_eq_true_eq,List.getD_eq_getElem?_getD,List.getElem?_eq_getElem hi',Option.getD_some]at this
  exact .inl this
 refine List.pairwise_append.2 ⟨hs.sublist (List.take_sublist _ _),List.pairwise_cons.2 ⟨h2,hs.sublist (List.drop_sublist _ _)⟩,fun a ha b hb=>?_⟩
 rcases List.mem_cons.1 hb with rfl | hb
 · exact h1 a ha
 · exact ltK_trans (h1 a ha) (h2 b hb)
def usedK(key:Nat->Nat)(l:List Nat):List Nat:=l.foldl (putK key) []
theorem usedK_of(key:Nat->Nat):∀ (l acc:List Nat),SrtK key acc->(∀ y∈acc,∀ x∈l,y<x)->l.Pairwise (·<·)->SrtK key (l.foldl (putK key) acc)/\(l.foldl (putK key) acc).Perm (acc++l):=by
 intro l
 induction l with
 | nil=>intro acc hs _ _;exact⟨hs,by simp⟩
 | cons x l ih=>
  intro acc hs hlt hp
  have hp':=List.pairwise_cons.1 hp
  have hpm:=putK_perm key acc x
  obtain ⟨h1, h2⟩ := ih (putK key acc x) (putK_srt key acc x hs fun y hy => hlt y hy x (by simp)) (fun y hy z hz => by
   rcases List.mem_cons.1 (hpm.mem_iff.1 hy) with rfl | hy
   · exact hp'.1 z hz
   · exact hlt y hy z (by simp [hz])) hp'.2
  refine⟨h1,h2.trans ?_⟩
  exact(hpm.append_right l).trans (List.perm_middle.symm)
theorem usedK_srt(key:Nat->Nat)(l:List Nat)(hp:l.Pairwise (·<·)):SrtK key (usedK key l):=(usedK_of key l [] List.Pairwise.nil (by simp) hp).1
theorem usedK_perm(key:Nat->Nat)(l:List Nat)(hp:l.Pairwise (·<·)):(usedK key l).Perm l:=by
 have h:=(usedK_of key l [] List.Pairwise.nil (by simp) hp).2
 rw [List.nil_append]at h
 exact h
theorem usedK_eq(key:Nat->Nat)(l m:List Nat)(hp:l.Pairwise (·<·))(hm:m.Perm l)(hs:SrtK key m):m=usedK key l:=
 srtK_unique (hm.trans (usedK_perm key l hp).symm) hs (usedK_srt key l hp)
def segF(f:Nat->Nat)(a b:Nat):List Nat:=(List.range (b - a)).map fun i=>f (a+i)
theorem segF_len(f:Nat->Nat)(a b:Nat):(segF f a b).length=b - a:=by simp [segF]
theorem segF_split(f:Nat->Nat)(a m b:Nat)(h1:a<=m)(h2:m<=b):segF f a b=segF f a m++segF f m b:=by
 unfold segF
 rw [show b - a=(m - a)+(b - m) by omega,List.range_add,List.map_append,List.map_map]
 congr 1
 refine List.map_congr_left fun i _=>?_
 show f (a+(m - a+i))=f (m+i)
 congr 1;omega
theorem segF_congr(f g:Nat->Nat)(a b:Nat)(h:∀ p,a<=p->p<b->f p=g p):segF f a b=segF g a b:=by
 unfold segF
 refine List.map_congr_left fun i hi=>?_
 have:=List.mem_range.1 hi
 exact h _ (by omega) (by omega)
theorem segF_shift(f g:Nat->Nat)(a b c d:Nat)(hl:b - a=d - c)(h:∀ i,i<b - a->f (a+i)=g (c+i)):segF f a b=segF g c d:=by
 unfold segF
 rw [<- hl]
 exact List.map_congr_left fun i hi=>h i (List.mem_range.1 hi)
theorem mem_segF(f:Nat->Nat)(a b x:Nat):x∈segF f a b↔∃ p,a<=p/\p<b/\f p=x:=by
 unfold segF
 rw [List.mem_map]
 constructor
 · rintro⟨i,hi,rfl⟩;have:=List.mem_range.1 hi;exact⟨a+i,by omega,by omega,rfl⟩
 · rintro⟨p,h1,h2,rfl⟩;exact⟨p - a,List.mem_range.2 (by omega),by congr 1;omega⟩
theorem segF_at(f:Nat->Nat)(a b i:Nat)(h:i<(segF f a b).length):(segF f a b)[i]=f (a+i):=by simp [segF]
def RearF(f f':Nat->Nat)(a b:Nat):Prop:=(∀ p,p<a\/b<=p->f' p=f p)/\(segF f' a b).Perm (segF f a b)
theorem RearF.refl(f:Nat->Nat)(a b:Nat):RearF f f a b:=⟨fun _ _=>rfl,List.Perm.refl _⟩
theorem RearF.trans{f g h:Nat->Nat}{a b:Nat}(h1:RearF f g a b)(h2:RearF g h a b):RearF f h a b:=⟨fun p hp=>(h2.1 p hp).trans (h1.1 p hp),h2.2.trans h1.2⟩
theorem RearF.congr{f g g':Nat->Nat}{a b:Nat}(h1:RearF f g a b)(h2:∀ p,g' p=g p):RearF f g' a b:=by
 have:g'=g:=funext h2
 rw [this];exact h1
theorem RearF.widen{f f':Nat->Nat}{a b a' b':Nat}(h:RearF f f' a b)(h1:a'<=a)(h2:a<=b)(h3:b<=b'):RearF f f' a' b':=by
 refine⟨fun p hp=>h.1 p (by omega),?_⟩
 rw [segF_split f' a' a b' h1 (by omega),segF_split f' a b b' h2 h3,segF_split f a' a b' h1 (by omega),segF_split f a b b' h2 h3]
 rw [segF_congr f' f a' a (fun p _ hp=>h.1 p (by omega)),segF_congr f' f b b' (fun p hp _=>h.1 p (by omega))]
 exact(List.Perm.refl _).append (h.2.append (List.Perm.refl _))
theorem RearF.mem{f f':Nat->Nat}{a b:Nat}(h:RearF f f' a b)(p:Nat)(h1:a<=p)(h2:p<b):∃ q,a<=q/\q<b/\f' p=f q:=by
 have:f' p∈segF f a b:=h.2.mem_iff.1 ((mem_segF f' a b _).2 ⟨p,h1,h2,rfl⟩)
 obtain⟨q,h3,h4,h5⟩:=(mem_segF f a b _).1 this
 exact⟨q,h3,h4,h5.symm⟩
def rotF(f:Nat->Nat)(a m b p:Nat):Nat:=if a<=p/\p<a+(b - m)then f (p+m - a)else if a+(b - m)<=p/\p<b then f (p - (b - m))else f p
theorem rotF_rear(f:Nat->Nat)(a m b:Nat)(h1:a<=m)(h2:m<=b):RearF f (rotF f a m b) a b:=by
 refine⟨fun p hp=>by unfold rotF;rw [if_neg (by omega),if_neg (by omega)],?_⟩
 rw [segF_split (rotF f a m b) a (a+(b - m)) b (by omega) (by omega),segF_split f a m b h1 h2]
 rw [segF_shift (rotF f a m b) f a (a+(b - m)) m b (by omega) (fun i hi=>by unfold rotF;rw [if_pos (by omega)];congr 1;omega)]
 rw [segF_shift (rotF f a m b) f (a+(b - m)) b a m (by omega) (fun i hi=>by unfold rotF;rw [if_neg (by omega),if_pos (by omega)];congr 1;omega)]
 exact List.perm_append_comm
def swpF(f:Nat->Nat)(a b n p:Nat):Nat:=if a<=p/\p<a+n then f (p - a+b)else if b<=p/\p<b+n then f (p - b+a)else f p
theorem swpF_zero(f:Nat->Nat)(a b p:Nat):swpF f a b 0 p=f p:=by unfold swpF;rw [if_neg (by omega),if_neg (by omega)]
def sw2(f:Nat->Nat)(i j p:Nat):Nat:=if p=j then f i else if p=i then f j else f p
theorem swpF_succ(f:Nat->Nat)(a b n p:Nat)(h:a+n<b):sw2 (swpF f a b n) (a+n) (b+n) p=swpF f a b (n+1) p:=by
 unfold sw2 swpF
 repeat' split
 all_goals first
  | rfl
  | (congr 1;omega)
  | (exfalso;omega)
theorem rot_even(f:Nat->Nat)(m i p:Nat)(h:i<=m):swpF f (m - i) m i p=rotF f (m - i) m (m+i) p:=by
 unfold swpF rotF
 repeat' split
 all_goals first
  | rfl
  | (congr 1;omega)
  | (exfalso;omega)
theorem rot_left(f:Nat->Nat)(m i j p:Nat)(h:i<=m)(hj:j<i):rotF (swpF f (m - i) m j) (m - (i - j)) m (m+j) p=rotF f (m - i) m (m+j) p:=by
 unfold rotF swpF
 repeat' split
 all_goals first
  | rfl
  | (congr 1;omega)
  | (exfalso;omega)
theorem rot_right(f:Nat->Nat)(m i j p:Nat)(h:i<=m)(hj:i<j):rotF (swpF f (m - i) (m+j - i) i) (m - i) m (m+(j - i)) p=rotF f (m - i) m (m+j) p:=by
 unfold rotF swpF
 repeat' split
 all_goals first
  | rfl
  | (congr 1;omega)
  | (exfalso;omega)
theorem rot_up(f:Nat->Nat)(a k p:Nat)(h:a<=k):sw2 (rotF f a (a+1) (k+1)) k (k+1) p=rotF f a (a+1) (k+2) p:=by
 unfold sw2 rotF
 repeat' split
 all_goals first
  | rfl
  | (congr 1;omega)
  | (exfalso;omega)
theorem rot_down(f:Nat->Nat)(m k p:Nat)(h:k<=m)(hk:0<k):sw2 (rotF f k m (m+1)) k (k - 1) p=rotF f (k - 1) m (m+1) p:=by
 unfold sw2 rotF
 repeat' split
 all_goals first
  | rfl
  | (congr 1;omega)
  | (exfalso;omega)
theorem rotF_id1(f:Nat->Nat)(a b p:Nat)(h:a<=b):rotF f a a b p=f p:=by
 unfold rotF
 repeat' split
 all_goals first
  | rfl
  | (congr 1;omega)
  | (exfalso;omega)
theorem rotF_id2(f:Nat->Nat)(a m p:Nat):rotF f a m m p=f p:=by
 unfold rotF
 repeat' split
 all_goals first
  | rfl
  | (congr 1;omega)
  | (exfalso;omega)
def SrtF(key:Nat->Nat)(f:Nat->Nat)(a b:Nat):Prop:=∀ i j,a<=i->i<j->j<b->ltK key (f i) (f j)
theorem SrtF.list{key f:Nat->Nat}{a b:Nat}(h:SrtF key f a b):SrtK key (segF f a b):=by
 rw [SrtK,List.pairwise_iff_getElem]
 intro i j hi hj hij
 rw [segF_at,segF_at]
 rw [segF_len]at hi hj
 exact h _ _ (by omega) (by omega) (by omega)
theorem SrtF.sub{key f:Nat->Nat}{a b c d:Nat}(h:SrtF key f a b)(h1:a<=c)(h2:d<=b):SrtF key f c d:=fun i j x y z=>h i j (by omega) y (by omega)
theorem SrtF.congr{key f g:Nat->Nat}{a b:Nat}(h:SrtF key f a b)(he:∀ p,a<=p->p<b->g p=f p):SrtF key g a b:=fun i j x y z=>by rw [he i x (by omega),he j (by omega) z];exact h i j x y z
def insF(g:Nat->Nat)(j i p:Nat):Nat:=rotF g j i (i+1) p
theorem insF_srt(key g:Nat->Nat)(a j i:Nat)(hg:SrtF key g a i)(h1:a<=j)(h2:j<=i)(hlo:∀ p,a<=p->p<j->ltK key (g p) (g i))(hhi:∀ p,j<=p->p<i->ltK key (g i) (g p)):SrtF key (insF g j i) a (i+1):=by
 have e1:∀ p,p<j->insF g j i p=g p:=fun p hp=>by unfold insF rotF;rw [if_neg (by omega),if_neg (by omega)]
 have e2:insF g j i j=g i:=by unfold insF rotF;rw [if_pos (by omega)];congr 1;omega
 have e3:∀ p,j<p->p<=i->insF g j i p=g (p - 1):=fun p hp hq=>by unfold insF rotF;rw [if_neg (by omega),if_pos (by omega)];congr 1;omega
 intro p q hp hpq hq
 rcases Nat.lt_trichotomy p j with c | c | c
 · rw [e1 p c]
   rcases Nat.lt_trichotomy q j with d | d | d
   · rw [e1 q d];exact hg p q hp hpq (by omega)
   · rw [d,e2];exact hlo p hp c
   · rw [e3 q d (by omega)];exact hg p (q - 1) hp (by omega) (by omega)
 · rw [c,e2,e3 q (by omega) (by omega)];exact hhi _ (by omega) (by omega)
 · rw [e3 p c (by omega),e3 q (by omega) (by omega)];exact hg _ _ (by omega) (by omega) (by omega)
def AheadF(f:Nat->Nat)(a m b:Nat):Prop:=∀ p q,a<=p->p<m->m<=q->q<b->f p<f q
theorem ahead_lt{key f:Nat->Nat}{a m b:Nat}(h:AheadF f a m b){p q:Nat}(h1:a<=p)(h2:p<m)(h3:m<=q)(h4:q<b):(key (f q)<key (f p)↔ltK key (f q) (f p))/\(¬key (f q)<key (f p)↔ltK key (f p) (f q)):=by
 have:=h p q h1 h2 h3 h4
 unfold ltK;omega
theorem merge_one(key f:Nat->Nat)(a b i:Nat)(hs:SrtF key f (a+1) b)(h1:a+1<=i)(h2:i<=b)(hlo:∀ p,a+1<=p->p<i->ltK key (f p) (f a))(hhi:∀ p,i<=p->p<b->ltK key (f a) (f p)):SrtF key (rotF f a (a+1) i) a b:=by
 have e1:∀ p,a<=p->p<i - 1->rotF f a (a+1) i p=f (p+1):=fun p hp hq=>by unfold rotF;rw [if_pos (by omega)];congr 1;omega
 have e2:rotF f a (a+1) i (i - 1)=f a:=by unfold rotF;rw [if_neg (by omega),if_pos (by omega)];congr 1;omega
 have e3:∀ p,i<=p->rotF f a (a+1) i p=f p:=fun p hp=>by unfold rotF;rw [if_neg (by omega),if_neg (by omega)]
 intro p q hp hpq hq
 rcases Nat.lt_trichotomy p (i - 1)with c | c | c
 · rw [e1 p hp c]
   rcases Nat.lt_trichotomy q (i - 1)with d | d | d
   · rw [e1 q (by omega) d];exact hs _ _ (by omega) (by omega) (by omega)
   · rw [d,e2];exact hlo _ (by omega) (by omega)
   · rw [e3 q (by omega)];exact hs _ _ (by omega) (by omega) (by omega)
 · rw [c,e2,e3 q (by omega)];exact hhi _ (by omega) (by omega)
 · rw [e3 p (by omega),e3 q (by omega)];exact hs _ _ (by omega) (by omega) (by omega)
theorem sym_join(key f g:Nat->Nat)(a mid b:Nat)(h1:SrtF key g a mid)(h2:SrtF key g mid b)(hr1:∀ p,a<=p->p<mid->∃ q,a<=q/\q<mid/\g p=f q)(hr2:∀ p,mid<=p->p<b->∃ q,mid<=q/\q<b/\g p=f q)(hx:∀ p q,a<=p->p<mid->mid<=q->q<b->ltK key (f p) (f q)):SrtF key g a b:=by
 intro p q hp hpq hq
 by_cases c:q<mid
 · exact h1 p q hp hpq c
 · by_cases d:mid<=p
   · exact h2 p q d hpq hq
   · obtain⟨p',a1,a2,a3⟩:=hr1 p hp (by omega)
     obtain⟨q',b1,b2,b3⟩:=hr2 q (by omega) hq
     rw [a3,b3];exact hx p' q' a1 a2 b1 b2
theorem rot_in1(f:Nat->Nat)(s m e p:Nat)(h:p<s):rotF f s m e p=f p:=by unfold rotF;rw [if_neg (by omega),if_neg (by omega)]
theorem rot_in2(f:Nat->Nat)(s m e p:Nat)(h:s<=p)(h2:p<s+(e - m)):rotF f s m e p=f (p+m - s):=by unfold rotF;rw [if_pos (by omega)]
theorem rot_in3(f:Nat->Nat)(s m e p:Nat)(h:s+(e - m)<=p)(h2:p<e):rotF f s m e p=f (p - (e - m)):=by unfold rotF;rw [if_neg (by omega),if_pos (by omega)]
theorem rot_in4(f:Nat->Nat)(s m e p:Nat)(h:e<=p)(hs:s<=m)(hm:m<=e):rotF f s m e p=f p:=by unfold rotF;rw [if_neg (by omega),if_neg (by omega)]
section
variable {key f:Nat->Nat} {a m b mid s e:Nat} (h1:a<=s) (h2:s<=m) (h3:m<=e) (h4:e<=b) (h5:e+s=mid+m)
include h1 h2 h3 h4 h5
theorem sym_low(p:Nat)(ha:a<=p)(hp:p<mid):(p<s/\rotF f s m e p=f p)\/(s<=p/\m<=p+m - s/\p+m - s<e/\rotF f s m e p=f (p+m - s)):=by
 by_cases c:p<s
 · exact .inl ⟨c,rot_in1 f s m e p c⟩
 · exact .inr ⟨by omega,by omega,by omega,rot_in2 f s m e p (by omega) (by omega)⟩
theorem sym_high(p:Nat)(ha:mid<=p)(hp:p<b):(p<e/\s<=p - (e - m)/\p - (e - m)<m/\rotF f s m e p=f (p - (e - m)))\/(e<=p/\rotF f s m e p=f p):=by
 by_cases c:p<e
 · exact .inl ⟨c,by omega,by omega,rot_in3 f s m e p (by omega) c⟩
 · exact .inr ⟨by omega,rot_in4 f s m e p (by omega) h2 h3⟩
theorem sym_cross(hs1:SrtF key f a m)(hs2:SrtF key f m b)(hx1:a<s->e<b->ltK key (f (s - 1)) (f e))(hx2:s<m->m<e->ltK key (f (e - 1)) (f s)) :
  ∀ p q,a<=p->p<mid->mid<=q->q<b->ltK key (rotF f s m e p) (rotF f s m e q):=by
 intro p q ha hp hq hb
 have le1:∀ x y,a<=x->x<=y->y<m->∀ z,ltK key (f y) z->ltK key (f x) z:=fun x y i j k z hz=>by
  by_cases c:x=y
  · rw [c];exact hz
  · exact ltK_trans (hs1 x y i (by omega) k) hz
 have le2:∀ x y,m<=x->x<=y->y<b->∀ z,ltK key z (f x)->ltK key z (f y):=fun x y i j k z hz=>by
  by_cases c:x=y
  · rw [<- c];exact hz
  · exact ltK_trans hz (hs2 x y i (by omega) k)
 have le3:∀ x y,m<=x->x<=y->y<b->∀ z,ltK key (f y) z->ltK key (f x) z:=fun x y i j k z hz=>by
  by_cases c:x=y
  · rw [c];exact hz
  · exact ltK_trans (hs2 x y i (by omega) k) hz
 have le4:∀ x y,a<=x->x<=y->y<m->∀ z,ltK key z (f x)->ltK key z (f y):=fun x y i j k z hz=>by
  by_cases c:x=y
  · rw [<- c];exact hz
  · exact ltK_trans hz (hs1 x y i (by omega) k)
 rcases sym_low (f:=f) h1 h2 h3 h4 h5 p ha hp with⟨c1,c2⟩ | ⟨c1,c2,c3,c4⟩
 · rcases sym_high (f:=f) h1 h2 h3 h4 h5 q hq hb with⟨d1,d2,d3,d4⟩ | ⟨d1,d2⟩
   · rw [c2,d4];exact hs1 _ _ ha (by omega) d3
   · rw [c2,d2]
     exact le1 p (s - 1) ha (by omega) (by omega) _ (le2 e q h3 d1 hb _ (hx1 (by omega) (by omega)))
 · rcases sym_high (f:=f) h1 h2 h3 h4 h5 q hq hb with⟨d1,d2,d3,d4⟩ | ⟨d1,d2⟩
   · rw [c4,d4]
     exact le3 _ (e - 1) c2 (by omega) (by omega) _ (le4 s _ h1 d2 d3 _ (hx2 (by omega) (by omega)))
   · rw [c4,d2];exact hs2 _ _ c2 (by omega) hb
theorem sym_srt1(hs1:SrtF key f a m):SrtF key (rotF f s m e) a s:=(hs1.sub (Nat.le_refl a) h2).congr fun p _ hp=>rot_in1 f s m e p hp
theorem sym_srt2(hs2:SrtF key f m b):SrtF key (rotF f s m e) s mid:=fun i j x y z=>by
 rw [rot_in2 f s m e i x (by omega),rot_in2 f s m e j (by omega) (by omega)]
 exact hs2 _ _ (by omega) (by omega) (by omega)
theorem sym_srt3(hs1:SrtF key f a m):SrtF key (rotF f s m e) mid e:=fun i j x y z=>by
 rw [rot_in3 f s m e i (by omega) (by omega),rot_in3 f s m e j (by omega) (by omega)]
 exact hs1 _ _ (by omega) (by omega) (by omega)
theorem sym_srt4(hs2:SrtF key f m b):SrtF key (rotF f s m e) e b:=(hs2.sub h3 (Nat.le_refl b)).congr fun p hp _=>rot_in4 f s m e p hp h2 h3
theorem sym_ah1(hA:AheadF f a m b):AheadF (rotF f s m e) a s mid:=fun p q x y z t=>by
 rw [rot_in1 f s m e p y,rot_in2 f s m e q z (by omega)]
 exact hA _ _ x (by omega) (by omega) (by omega)
theorem sym_ah2(hA:AheadF f a m b):AheadF (rotF f s m e) mid e b:=fun p q x y z t=>by
 rw [rot_in3 f s m e p (by omega) y,rot_in4 f s m e q z h2 h3]
 exact hA _ _ (by omega) (by omega) (by omega) t
end
theorem search_in(key f:Nat->Nat)(a m b lo hi p c:Nat)(hs1:SrtF key f a m)(hs2:SrtF key f m b)(h1:a<=lo)(h2:hi<=m)(h3:∀ x,lo<=x->x<hi->m<=p - x/\p - x<b/\x<=p)(hc1:lo<=c)(hc2:c<hi) :
  (ltK key (f c) (f (p - c))->∀ x,lo<=x->x<c+1->ltK key (f x) (f (p - x)))/\(ltK key (f (p - c)) (f c)->∀ x,c<=x->x<hi->ltK key (f (p - x)) (f x)):=by
 refine⟨fun h x hx1 hx2=>?_,fun h x hx1 hx2=>?_⟩
 · by_cases e:x=c
   · rw [e];exact h
   · have a1:=hs1 x c (by omega) (by omega) (by omega)
     have k1:=h3 x hx1 (by omega)
     have k2:=h3 c hc1 hc2
     have a2:=hs2 (p - c) (p - x) k2.1 (by omega) k1.2.1
     exact ltK_trans a1 (ltK_trans h a2)
 · by_cases e:x=c
   · rw [e];exact h
   · have a1:=hs1 c x (by omega) (by omega) (by omega)
     have k1:=h3 x (by omega) hx2
     have k2:=h3 c hc1 hc2
     have a2:=hs2 (p - x) (p - c) k1.1 (by omega) k2.2.1
     exact ltK_trans a2 (ltK_trans h a1)
end Go.Fk
