/- Parts of the proof of ArchEnds: Wd1. -/
import Derived.Test.YtfpijnhhdfoohaaGreatDoorM03
import Derived.Test.YtfpijnhhdfoohaaGreatDoorShelf
import Derived.Test.YtfpijnhhdfoohaaGreatDoorM01
import Derived.Sort.OwnSorted
set_option linter.unusedVariables false
set_option linter.unusedSectionVars false
set_option linter.unusedSimpArgs false
set_option maxHeartbeats 8000000
namespace Go.Proofs.YtfpijnhhdfoohaaGreatDoor
open Go.RowKit Go.Fk
theorem sF(l:List (List UInt8)):eS.cells l=l.map encStr:=by
 induction l with
 | nil=>rfl
 | cons x l d=>show [S x]++eS.cells l=_;rw [d];rfl
theorem D1:∀ (l:List (List UInt8)) (x:List UInt8),cz (l++[x])=cz l++(if l.getLast?=some x then []else [x])
 | [],x=>by simp [cz]
 | [a],x=>by
  by_cases h:a=x
  · subst h;simp [cz]
  · simp [cz,h]
 | a::b::l,x=>by
  have d:=D1 (b::l) x
  have e:(a::b::l).getLast?=(b::l).getLast?:=by simp [List.getLast?_cons_cons]
  rw [e]
  simp only [qm]at d ⊢
  rw [cz,cz,d]
  split <;> simp
theorem Pc(l:List (List UInt8)):Lib.compact l=cz l:=by
 have key:∀ m,m<=l.length->Lib.compactUpTo l.toArray m=cz (l.take m):=by
  intro m
  induction m with
  | zero=>intro _;simp [Lib.compactUpTo,cz]
  | succ m q=>
   intro D;have d:m<l.length:=(by omega);rw [Lib.compactUpTo_succ,q (by omega),gy d,D1];congr 1;have o:l.toArray[m]! = l[m]:=(by simp [d]);rw [o]
   cases m with
   | zero=>simp [Lib.keeps]
   | succ k=>
    have z:l.toArray[k+1 - 1]! = l[k]:=(by simp [show k<l.length by omega]);have A:(l.take (k+1)).getLast?=some l[k]:=(by rw [gy (by omega)];exact List.getLast?_concat);unfold Lib.keeps;rw [o,z,A];by_cases h:l[k+1]=l[k];· simp [h]
    · have B:¬l[k]=l[k+1]:=fun e=>h e.symm;simp [h,B]
 have:=key l.length (am _);rw [dO]at this;exact this
theorem D3:∀ (l:List (List UInt8)),(cz l).length<=l.length
 | []=>by simp [cz]
 | [a]=>by simp [cz]
 | a::b::l=>by
  have:=D3 (b::l)
  rw [cz]
  split
  · simp at this ⊢;omega
  · simp at this ⊢;omega
theorem QW(v:Value)(l:List (List UInt8))(base:Nat)(w:World)(m:Ow w base eS v l)(J:l.length<=1000000000) :
  Calls Tryz.prog 154 #[v] w fun e d=>e=.returned (.tuple #[])/\Ow d base eS v (l.mergeSort fun x y=>decide (x<=y))/\w.grownBy d v.ownBlock:=by
 have o:w.ownsRow base eS.e 1 v l.length (l.map encStr):=by rw [<- sF];exact m
 rcases o.2 with⟨rfl,q⟩ | ⟨g,z,K,rfl,B,h,D,F,G,I⟩;· obtain rfl:l=[]:=ja q;refine(Tryz.slices_Sort_string_none none 0 w).mono ?_;rintro e d ⟨rfl,rfl⟩;exact⟨rfl,by simpa using m,⟨rfl,rfl,rfl,am _,fun _ _ _=>rfl⟩⟩
 · refine(Tryz.slices_Sort_string g 0 z l w (holds_of_block h (by simpa using I)) (aM.1 h).1 (by omega)).mono ?_;rintro e d ⟨rfl,n,os,rfl⟩;refine⟨rfl,?_,grownBy_sorted _⟩;have:=ownsRow_sorted (n:=n) (os:=os) (base:=base) (show(l.mergeSort fun x y=>decide (x<=y)).length=l.length by simp) B h D F G;unfold Ow;rw [sF,List.length_mergeSort];exact this
theorem QY(v:Value)(l:List (List UInt8))(base:Nat)(w:World)(m:Ow w base eS v l)(U:l.length<=1000000000) :
  Calls Tryz.prog 155 #[v] w fun e h=>∃ v',e=.returned v'/\Ow h base eS v' (cz l)/\w.grownBy h v.ownBlock:=by
 have G:w.ownsRow base eS.e 1 v l.length (l.map encStr):=by rw [<- sF];exact m
 rcases G.2 with⟨rfl,I⟩ | ⟨g,o,V,rfl,J,z,B,K,L,M⟩;· obtain rfl:l=[]:=ja I;refine(Tryz.slices_Compact_string_empty none 0 w).mono ?_;rintro e h ⟨rfl,rfl⟩;exact⟨_,rfl,m,⟨rfl,rfl,rfl,am _,fun _ _ _=>rfl⟩⟩
 · refine(Tryz.slices_Compact_string g 0 o l w (holds_of_block z (by simpa using M)) (by omega) B).mono ?_;rintro e h ⟨rfl,q,rfl⟩;rw [Pc];have X:=D3 l;have D:∀ W d,Sort.grow (Sort.putRow encStr (Sort.ahead W q) g 0 d) #[]=Sort.putRow encStr (Sort.ahead W q) g 0 d:=fun W d=>Sort.grow_empty _;have F:=grownBy_sorted (w:=w) (g:=g) (n:=q) (os:=#[]) (cz l++List.replicate (l.length - (cz l).length) []).toArray;rw [D]at F;refine⟨_,rfl,?_,F⟩;have:=ownsRow_sorted (n:=q) (os:=#[]) (base:=base) (ts:=cz l++List.replicate (l.length - (cz l).length) []) (show _=l.length by simp;omega) J z B K L;rw [D]at this;have O:Ow (Sort.putRow encStr (Sort.ahead w q) g 0 (cz l++List.replicate (l.length - (cz l).length) []).toArray) base eS (.slice (some ⟨g,0,none⟩) l.length o) (cz l++List.replicate (l.length - (cz l).length) []):=(by unfold Ow;rw [sF];have Q:(cz l++List.replicate (l.length - (cz l).length) []).length=l.length:=(by simp;omega);rw [Q];exact this);have R:=O.take (j:=(cz l).length) (by simp);rwa [List.take_left]at R
end Go.Proofs.YtfpijnhhdfoohaaGreatDoor
