/- Parts of the proof of ArchPacks: Wd1. -/
import Derived.Test.YtdamnfpigajmoaaGreatDoorM01
import Derived.Test.YtdamnfpigajmoaaGreatDoorShelf
import Derived.Test.YtdamnfpigajmoaaGreatDoorM07
import Derived.Sort.OwnSorted
set_option linter.unusedVariables false
set_option linter.unusedSectionVars false
set_option linter.unusedSimpArgs false
set_option maxHeartbeats 8000000
namespace Go.Proofs.YtdamnfpigajmoaaGreatDoor
open Go.RowKit Go.Fk
theorem pA(l:List (List UInt8)):eS.cells l=l.map encStr:=by
 induction l with
 | nil=>rfl
 | cons x l d=>show [S x]++eS.cells l=_;rw [d];rfl
theorem zT:∀ (l:List (List UInt8)) (x:List UInt8),cB (l++[x])=cB l++(if l.getLast? = some x then []else [x])
 | [],x=>by simp [cB]
 | [a],x=>by
  by_cases h:a=x
  · subst h;simp [cB]
  · simp [cB,h]
 | a::b::l,x=>by
  have d:=zT (b::l) x
  have e:(a::b::l).getLast? = (b::l).getLast?:=by simp [List.getLast?_cons_cons]
  rw [e]
  simp only [lY]at d ⊢
  rw [cB,cB,d]
  split <;> simp
theorem Hr(l:List (List UInt8)):Lib.compact l=cB l:=by
 have key:∀ m,m<=l.length->Lib.compactUpTo l.toArray m=cB (l.take m):=by
  intro m
  induction m with
  | zero=>intro _;simp [Lib.compactUpTo,cB]
  | succ m q=>
   intro D;have d:m<l.length:=(by omega);rw [Lib.compactUpTo_succ,q (by omega),cL d,zT];congr 1;have o:l.toArray[m]! = l[m]:=(by simp [d]);rw [o]
   cases m with
   | zero=>simp [Lib.keeps]
   | succ k=>
    have y:l.toArray[k+1 - 1]! = l[k]:=(by simp [show k<l.length by omega]);have z:(l.take (k+1)).getLast? = some l[k]:=(by rw [cL (by omega)];exact List.getLast?_concat);unfold Lib.keeps;rw [o,y,z];by_cases h:l[k+1]=l[k];· simp [h]
    · have A:¬l[k]=l[k+1]:=fun e=>h e.symm;simp [h,A]
 have:=key l.length (ag _);rw [cu]at this;exact this
theorem zU:∀ (l:List (List UInt8)),(cB l).length<=l.length
 | []=>by simp [cB]
 | [a]=>by simp [cB]
 | a::b::l=>by
  have:=zU (b::l)
  rw [cB]
  split
  · simp at this ⊢;omega
  · simp at this ⊢;omega
theorem Jm(v:Value)(l:List (List UInt8))(base:Nat)(w:World)(h:Ow w base eS v l)(J:l.length<=1000000000) :
  Calls Tryz.prog 163 #[v] w fun e w'=>e=.returned (.tuple #[])/\Ow w' base eS v (l.mergeSort fun x y=>decide (x<=y))/\w.grownBy w' v.ownBlock:=by
 have m:w.ownsRow base eS.e 1 v l.length (l.map encStr):=by rw [<- pA];exact h
 rcases m.2 with⟨rfl,o⟩ | ⟨g,q,K,rfl,z,d,D,F,G,I⟩;· obtain rfl:l=[]:=ib o;refine(Tryz.slices_Sort_string_none none 0 w).mono ?_;rintro e w' ⟨rfl,rfl⟩;exact⟨rfl,by simpa using h,⟨rfl,rfl,rfl,ag _,fun _ _ _=>rfl⟩⟩
 · refine(Tryz.slices_Sort_string g 0 q l w (holds_of_block d (by simpa using I)) (aR.1 d).1 (by omega)).mono ?_;rintro e w' ⟨rfl,n,os,rfl⟩;refine⟨rfl,?_,grownBy_sorted _⟩;have:=ownsRow_sorted (n:=n) (os:=os) (base:=base) (show(l.mergeSort fun x y=>decide (x<=y)).length=l.length by simp) z d D F G;unfold Ow;rw [pA,List.length_mergeSort];exact this
theorem Jn(v:Value)(l:List (List UInt8))(base:Nat)(w:World)(h:Ow w base eS v l)(R:l.length<=1000000000) :
  Calls Tryz.prog 164 #[v] w fun e w'=>∃ v',e=.returned v'/\Ow w' base eS v' (cB l)/\w.grownBy w' v.ownBlock:=by
 have F:w.ownsRow base eS.e 1 v l.length (l.map encStr):=by rw [<- pA];exact h
 rcases F.2 with⟨rfl,G⟩ | ⟨g,m,T,rfl,I,o,y,J,K,L⟩;· obtain rfl:l=[]:=ib G;refine(Tryz.slices_Compact_string_empty none 0 w).mono ?_;rintro e w' ⟨rfl,rfl⟩;exact⟨_,rfl,h,⟨rfl,rfl,rfl,ag _,fun _ _ _=>rfl⟩⟩
 · refine(Tryz.slices_Compact_string g 0 m l w (holds_of_block o (by simpa using L)) (by omega) y).mono ?_;rintro e w' ⟨rfl,q,rfl⟩;rw [Hr];have U:=zU l;have z:∀ W d,Sort.grow (Sort.putRow encStr (Sort.ahead W q) g 0 d) #[]=Sort.putRow encStr (Sort.ahead W q) g 0 d:=fun W d=>Sort.grow_empty _;have D:=grownBy_sorted (w:=w) (g:=g) (n:=q) (os:=#[]) (cB l++List.replicate (l.length - (cB l).length) []).toArray;rw [z]at D;refine⟨_,rfl,?_,D⟩;have:=ownsRow_sorted (n:=q) (os:=#[]) (base:=base) (ts:=cB l++List.replicate (l.length - (cB l).length) []) (show _=l.length by simp;omega) I o y J K;rw [z]at this;have M:Ow (Sort.putRow encStr (Sort.ahead w q) g 0 (cB l++List.replicate (l.length - (cB l).length) []).toArray) base eS (.slice (some ⟨g,0,none⟩) l.length m) (cB l++List.replicate (l.length - (cB l).length) []):=(by unfold Ow;rw [pA];have O:(cB l++List.replicate (l.length - (cB l).length) []).length=l.length:=(by simp;omega);rw [O];exact this);have Q:=M.take (j:=(cB l).length) (by simp);rwa [List.take_left]at Q
end Go.Proofs.YtdamnfpigajmoaaGreatDoor
