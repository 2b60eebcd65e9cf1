/- Parts of the proof of ArchOne: Lib2. -/
import Derived.Test.YtdagmoonnbnceaaGreatDoorM00
import Derived.ChangeKeysEq
set_option linter.unusedVariables false
set_option linter.unusedSectionVars false
set_option linter.unusedSimpArgs false
set_option maxHeartbeats 8000000
namespace Go.Fk
open Go.RowKit
section
variable {P:Program} {α:Type}
theorem sizeOf_elt(E:Elt P α)(w:World):(sizeOf E.e).run P w=.ok E.k w:=by
 obtain⟨i,hi,hz,h1,h2⟩:=info_parts E.info
 simp [sizeOf,typeInfo,hi,h1]
theorem See.drop{E:Elt P α}{w:World}{a:Option Addr}{n cap:Nat}{l:List α}(h:See w E (.slice a n cap) l){k:Nat}(hk:k<=l.length) :
  See w E (.slice (if cap=k then a else a.map (·.add (k*E.k))) (l.length - k) (cap - k)) (l.drop k):=by
 obtain⟨h1,a',cap',hv,h2,h3,h5,h4⟩:=h
 simp only [Value.slice.injEq]at hv
 obtain⟨rfl,rfl,rfl⟩:=hv
 have hl:(l.drop k).length=l.length - k:=by simp
 refine⟨E.length_cells _,_,_,by rw [hl],by omega,by omega,?_,?_⟩
 · intro e
   have:a=none:=by
    split at e
    · exact e
    · simpa using e
   have:=h5 this
   constructor <;> omega
 · rcases h4 with h4 | ⟨b,off,rfl,h4⟩
   · left;omega
   · by_cases hc:cap=k
     · left;omega
     · right
       refine⟨b,off+k*E.k,by rw [if_neg hc];simp [Addr.add],fun j u hj=>?_⟩
       have e:=E.cells_append (l.take k) (l.drop k)
       rw [List.take_append_drop]at e
       have hl2:(E.cells (l.take k)).length=k*E.k:=by rw [E.length_cells,List.length_take,Nat.min_eq_left hk]
       rw [Nat.add_assoc]
       refine h4 (k*E.k+j) u ?_
       rw [e,List.getElem?_append_right (by omega),hl2,Nat.add_sub_cancel_left]
       exact hj
theorem run_from(E:Elt P α)(t:TypeId)(ht:P.underlying t=some (.slice E.e)){w:World}{a:Option Addr}{n cap:Nat}{l:List α}(h:See w E (.slice a n cap) l)(k:Nat)(hk:k<=l.length) :
  ∃ a' cap',(∀ W,(Instr.slice t (.slice a n cap) (some (.int .i64 (k:Int))) none none).run P W=.ok (.slice a' (l.length - k) cap') W)/\See w E (.slice a' (l.length - k) cap') (l.drop k):=by
 have ht':P.underlying t=some (.slice (P.elem t)):=by simp [Program.elem,ht]
 have he:P.elem t=E.e:=by simp [Program.elem,ht]
 obtain⟨a',cap',hv,_⟩:=h.shape
 simp only [Value.slice.injEq]at hv
 obtain⟨rfl,rfl,rfl⟩:=hv
 refine⟨_,_,fun W=>?_,h.drop hk⟩
 rw [run_slice_l W t _ _ _ ht' .i64 _ (by omega) (by omega),he,sizeOf_elt]
 simp [Result.andThen,sliced]
theorem run_to(E:Elt P α)(t:TypeId)(ht:P.underlying t=some (.slice E.e)){w:World}{a:Option Addr}{n cap:Nat}{l:List α}(h:See w E (.slice a n cap) l)(k:Nat)(hk:k<=l.length) :
  (∀ W,(Instr.slice t (.slice a n cap) none (some (.int .i64 (k:Int))) none).run P W=.ok (.slice a k cap) W)/\See w E (.slice a k cap) (l.take k):=by
 have ht':P.underlying t=some (.slice (P.elem t)):=by simp [Program.elem,ht]
 have he:P.elem t=E.e:=by simp [Program.elem,ht]
 obtain⟨a',cap',hv,hc,hm,hn⟩:=h.shape
 simp only [Value.slice.injEq]at hv
 obtain⟨rfl,rfl,rfl⟩:=hv
 refine⟨fun W=>?_,h.take hk⟩
 rw [run_slice_h W t _ _ _ ht' .i64 _ (by omega) (by omega),he,sizeOf_elt]
 simp [Result.andThen,sliced]
 cases a with
 | none=>simp
 | some a=>simp [Addr.add]
theorem run_mid(E:Elt P α)(t:TypeId)(ht:P.underlying t=some (.slice E.e)){w:World}{a:Option Addr}{n cap:Nat}{l:List α}(h:See w E (.slice a n cap) l)(i k:Nat)(hi:i<=k)(hk:k<=l.length) :
  ∃ a' cap',(∀ W,(Instr.slice t (.slice a n cap) (some (.int .i64 (i:Int))) (some (.int .i64 (k:Int))) none).run P W=.ok (.slice a' (k - i) cap') W)/\See w E (.slice a' (k - i) cap') ((l.take k).drop i):=by
 have ht':P.underlying t=some (.slice (P.elem t)):=by simp [Program.elem,ht]
 have he:P.elem t=E.e:=by simp [Program.elem,ht]
 obtain⟨a',cap',hv,hc,hm,hn⟩:=h.shape
 simp only [Value.slice.injEq]at hv
 obtain⟨rfl,rfl,rfl⟩:=hv
 have hl:(l.take k).length=k:=by simp;omega
 have h2:=(h.take hk).drop (k:=i) (by omega)
 rw [hl]at h2
 refine⟨_,_,fun W=>?_,h2⟩
 rw [run_slice_lh W t _ _ _ ht' .i64 .i64 _ _ (by omega) (by omega) (by omega),he,sizeOf_elt]
 simp [Result.andThen,sliced]
theorem Ow.to{E:Elt P α}{w:World}{base:Nat}{a:Option Addr}{n cap:Nat}{l:List α}(h:Ow w base E (.slice a n cap) l){k:Nat}(hk:k<=l.length):Ow w base E (.slice a k cap) (l.take k):=by
 by_cases h0:a=none
 · subst h0
   obtain⟨a',cap',hv,_,_,hn⟩:=h.see.shape
   simp only [Value.slice.injEq]at hv
   obtain⟨rfl,rfl,rfl⟩:=hv
   obtain⟨rfl,rfl⟩:=hn rfl
   have:k=0:=by simpa using hk
   subst this
   exact h
 · rcases h.2 with⟨hv,_⟩ | ⟨g,cap',cur,hv,_⟩
   · cases hv;exact absurd rfl h0
   · simp only [Value.slice.injEq]at hv
     obtain⟨rfl,rfl,rfl⟩:=hv
     exact h.take hk
theorem See.cell1{E:Elt P α}{w:World}{v:Value}{l:List α}(h:See w E v l)(f:α->Value)(he:E.enc=fun x=>[f x])(k:Nat)(hk:k<l.length) :
  ∃ b off cap,v=.slice (some ⟨b,off,none⟩) l.length cap/\w.cell? ⟨b,off+k,none⟩=some (f l[k]):=by
 obtain⟨b,off,cap,hv,_,_,h3⟩:=h.at1 f he (by intro e;simp [e]at hk)
 exact⟨b,off,cap,hv,h3 k hk⟩
end
end Go.Fk
