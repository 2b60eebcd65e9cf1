/- Parts of the proof of ArchOne: Wd1. -/
import Derived.Test.YtdagmoonnbnceaaGreatDoorM01
import Derived.Test.YtdagmoonnbnceaaGreatDoorShelf
import Derived.Test.YtdagmoonnbnceaaGreatDoorM31
import Derived.Sort.OwnSorted
set_option linter.unusedVariables false
set_option linter.unusedSectionVars false
set_option linter.unusedSimpArgs false
set_option maxHeartbeats 8000000
namespace Go.Proofs.YtdagmoonnbnceaaGreatDoor
open Go.RowKit Go.Fk
theorem cells_str(l:List (List UInt8)):eS.cells l=l.map encStr:=by
 induction l with
 | nil=>rfl
 | cons x l ih=>
  show [S x]++eS.cells l=_
  rw [ih];rfl
theorem compS_snoc:∀ (l:List (List UInt8)) (x:List UInt8),compS (l++[x])=compS l++(if l.getLast? = some x then []else [x])
 | [],x=>by simp [compS]
 | [a],x=>by
  by_cases h:a=x
  · subst h;simp [compS]
  · simp [compS,h]
 | a::b::l,x=>by
  have ih:=compS_snoc (b::l) x
  have e:(a::b::l).getLast? = (b::l).getLast?:=by simp [List.getLast?_cons_cons]
  rw [e]
  simp only [List.cons_append]at ih ⊢
  rw [compS,compS,ih]
  split <;> simp
theorem compact_eq(l:List (List UInt8)):Lib.compact l=compS l:=by
 have key:∀ m,m<=l.length->Lib.compactUpTo l.toArray m=compS (l.take m):=by
  intro m
  induction m with
  | zero=>intro _;simp [Lib.compactUpTo,compS]
  | succ m ih=>
   intro hm
   have hm':m<l.length:=by omega
   rw [Lib.compactUpTo_succ,ih (by omega),List.take_succ_eq_append_getElem hm',compS_snoc]
   congr 1
   have e1:l.toArray[m]! = l[m]:=by simp [hm']
   rw [e1]
   cases m with
   | zero=>simp [Lib.keeps]
   | succ k=>
    have e2:l.toArray[k+1 - 1]! = l[k]:=by simp [show k<l.length by omega]
    have e3:(l.take (k+1)).getLast? = some l[k]:=by
     rw [List.take_succ_eq_append_getElem (by omega)];exact List.getLast?_concat
    unfold Lib.keeps
    rw [e1,e2,e3]
    by_cases h:l[k+1]=l[k]
    · simp [h]
    · have h':¬l[k]=l[k+1]:=fun e=>h e.symm
      simp [h,h']
 have:=key l.length (Nat.le_refl _)
 rw [List.take_length]at this
 exact this
theorem compS_len:∀ (l:List (List UInt8)),(compS l).length<=l.length
 | []=>by simp [compS]
 | [a]=>by simp [compS]
 | a::b::l=>by
  have:=compS_len (b::l)
  rw [compS]
  split
  · simp at this ⊢;omega
  · simp at this ⊢;omega
theorem SSort_any(v:Value)(l:List (List UInt8))(base:Nat)(w:World)(hs:Ow w base eS v l)(hn:l.length<=1000000000) :
  Calls Tryz.prog 126 #[v] w fun e w'=>e=.returned (.tuple #[])/\Ow w' base eS v (l.mergeSort fun x y=>decide (x<=y))/\w.grownBy w' v.ownBlock:=by
 have hs':w.ownsRow base eS.e 1 v l.length (l.map encStr):=by rw [<- cells_str];exact hs
 rcases hs'.2 with⟨rfl,h0⟩ | ⟨g,cap,cur,rfl,hb,hg,h1,h2,h3,h4⟩
 · obtain rfl:l=[]:=List.eq_nil_of_length_eq_zero h0
   refine(Tryz.slices_Sort_string_none none 0 w).mono ?_
   rintro e w' ⟨rfl,rfl⟩
   exact⟨rfl,by simpa using hs,⟨rfl,rfl,rfl,Nat.le_refl _,fun _ _ _=>rfl⟩⟩
 · refine(Tryz.slices_Sort_string g 0 cap l w (holds_of_block hg (by simpa using h4)) (Array.getElem?_eq_some_iff.1 hg).1 (by omega)).mono ?_
   rintro e w' ⟨rfl,n,os,rfl⟩
   refine⟨rfl,?_,grownBy_sorted _⟩
   have:=ownsRow_sorted (n:=n) (os:=os) (base:=base) (show(l.mergeSort fun x y=>decide (x<=y)).length=l.length by simp) hb hg h1 h2 h3
   unfold Ow
   rw [cells_str,List.length_mergeSort]
   exact this
theorem SCompact_any(v:Value)(l:List (List UInt8))(base:Nat)(w:World)(hs:Ow w base eS v l)(hn:l.length<=1000000000) :
  Calls Tryz.prog 127 #[v] w fun e w'=>∃ v',e=.returned v'/\Ow w' base eS v' (compS l)/\w.grownBy w' v.ownBlock:=by
 have hs':w.ownsRow base eS.e 1 v l.length (l.map encStr):=by rw [<- cells_str];exact hs
 rcases hs'.2 with⟨rfl,h0⟩ | ⟨g,cap,cur,rfl,hb,hg,h1,h2,h3,h4⟩
 · obtain rfl:l=[]:=List.eq_nil_of_length_eq_zero h0
   refine(Tryz.slices_Compact_string_empty none 0 w).mono ?_
   rintro e w' ⟨rfl,rfl⟩
   exact⟨_,rfl,hs,⟨rfl,rfl,rfl,Nat.le_refl _,fun _ _ _=>rfl⟩⟩
 · refine(Tryz.slices_Compact_string g 0 cap l w (holds_of_block hg (by simpa using h4)) (by omega) h1).mono ?_
   rintro e w' ⟨rfl,q,rfl⟩
   rw [compact_eq]
   have hlen:=compS_len l
   have e0:∀ W d,Sort.grow (Sort.putRow encStr (Sort.ahead W q) g 0 d) #[]=Sort.putRow encStr (Sort.ahead W q) g 0 d:=fun W d=>Sort.grow_empty _
   have hg2:=grownBy_sorted (w:=w) (g:=g) (n:=q) (os:=#[]) (compS l++List.replicate (l.length - (compS l).length) []).toArray
   rw [e0]at hg2
   refine⟨_,rfl,?_,hg2⟩
   have:=ownsRow_sorted (n:=q) (os:=#[]) (base:=base) (ts:=compS l++List.replicate (l.length - (compS l).length) []) (show _=l.length by simp;omega) hb hg h1 h2 h3
   rw [e0]at this
   have h5:Ow (Sort.putRow encStr (Sort.ahead w q) g 0 (compS l++List.replicate (l.length - (compS l).length) []).toArray) base eS (.slice (some ⟨g,0,none⟩) l.length cap) (compS l++List.replicate (l.length - (compS l).length) []):=by
    unfold Ow
    rw [cells_str]
    have e2:(compS l++List.replicate (l.length - (compS l).length) []).length=l.length:=by simp;omega
    rw [e2]
    exact this
   have h6:=h5.take (j:=(compS l).length) (by simp)
   rwa [List.take_left]at h6
end Go.Proofs.YtdagmoonnbnceaaGreatDoor
