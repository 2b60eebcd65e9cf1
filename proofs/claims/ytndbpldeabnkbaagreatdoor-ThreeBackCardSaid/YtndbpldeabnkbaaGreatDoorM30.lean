/- Lemmas for ThreeTurned. -/
import Derived.Test.YtndbpldeabnkbaaGreatDoorM04
import Derived.Test.YtndbpldeabnkbaaGreatDoorShelf
import Derived.Sort.OwnSorted
set_option linter.all false
set_option maxHeartbeats 8000000
namespace Go.Proofs.YtndbpldeabnkbaaGreatDoor
open Go.RowKit Go.Fk
def vL(l:List Z0):eS.cells l=l.map encStr:=by
 induction l with
 | nil=>rfl
 | cons x l d=>show [S x]++eS.cells l=_;rw[d];rfl
theorem Ie:∀(l:List Z0) (x:Z0),d7 (l++[x])=d7 l++(if l.getLast?=some x then []else [x])
 | [],x=>by simp[d7]
 | [a],x=>by
  by_cases h:a=x
  ·subst h;simp[d7]
  ·simp[d7,h]
 | a::b::l,x=>by
  have d:=Ie (b::l) x
  have e:(a::b::l).getLast?=(b::l).getLast?:=by simp[List.getLast?_cons_cons]
  rw[e]
  simp only[lm]at d ⊢
  rw[d7,d7,d]
  split <;> simp
def Un(l:List Z0):Lib.compact l=d7 l:=by
 have key:∀m,m<=l.length->Lib.compactUpTo l.toArray m=d7 (l.take m):=by
  intro m
  induction m with
  | zero=>intro _;simp[Lib.compactUpTo,d7]
  | succ m z=>
   intro G;have d:m<l.length:=ω;rw[Lib.compactUpTo_succ,z ω,f8 d,Ie];congr 1;have o:l.toArray[m]! = l[m]:=(by simp[d]);rw[o]
   cases m with
   | zero=>simp[Lib.keeps]
   | succ k=>
    have A:l.toArray[k+1-1]! = l[k]:=(by simp[show k<l.length by omega]);have D:(l.take (k+1)).getLast?=some l[k]:=(by rw[f8 ω];exact List.getLast?_concat);unfold Lib.keeps;rw[o,A,D];by_cases h:l[k+1]=l[k];·simp[h]
    ·have F:¬l[k]=l[k+1]:=λe=>h e.symm;simp[h,F]
 have:=key l.length (al _);rw[dY]at this;exact this
theorem If:∀(l:List Z0),(d7 l).length<=l.length
 | []=>by simp[d7]
 | [a]=>by simp[d7]
 | a::b::l=>by
  have:=If (b::l)
  rw[d7]
  split
  ·simp at this ⊢;omega
  ·simp at this ⊢;omega
def Wq(v:Value)(l:List Z0)(base:Nat)(w:World)(h:Ow w base eS v l)(K:l.length<=1000000000):Calls Tryz.prog 122 #[v] w λe w'=>e=.returned (.tuple #[])/\Ow w' base eS v (l.mergeSort λx y=>decide (x<=y))/\w.grownBy w' v.ownBlock:=by
 have m:w.ownsRow base eS.e 1 v l.length (l.map encStr):=by rw[<- vL];exact h
 rcases m.2 with⟨rfl,o⟩ | ⟨g,z,L,rfl,D,d,F,G,I,J⟩;·obtain rfl:l=[]:=kd o;refine(Tryz.slices_Sort_string_none none 0 w).mono ?_;rintro e w' ⟨rfl,rfl⟩;exact⟨rfl,by simpa using h,⟨rfl,rfl,rfl,al _,λ_ _ _=>rfl⟩⟩
 ·refine(Tryz.slices_Sort_string g 0 z l w (holds_of_block d (by simpa using J)) (aR.1 d).1 ω).mono ?_;rintro e w' ⟨rfl,n,os,rfl⟩;refine⟨rfl,?_,grownBy_sorted _⟩;have:=ownsRow_sorted (n:=n) (os:=os) (base:=base) (show(l.mergeSort λx y=>decide (x<=y)).length=l.length by simp) D d F G I;unfold Ow;rw[vL,List.length_mergeSort];exact this
def Ws(v:Value)(l:List Z0)(base:Nat)(w:World)(h:Ow w base eS v l)(U:l.length<=1000000000):Calls Tryz.prog 123 #[v] w λe w'=>∃v',e=.returned v'/\Ow w' base eS v' (d7 l)/\w.grownBy w' v.ownBlock:=by
 have G:w.ownsRow base eS.e 1 v l.length (l.map encStr):=by rw[<- vL];exact h
 rcases G.2 with⟨rfl,I⟩ | ⟨g,m,V,rfl,J,o,z,K,L,M⟩;·obtain rfl:l=[]:=kd I;refine(Tryz.slices_Compact_string_empty none 0 w).mono ?_;rintro e w' ⟨rfl,rfl⟩;exact⟨_,rfl,h,⟨rfl,rfl,rfl,al _,λ_ _ _=>rfl⟩⟩
 ·refine(Tryz.slices_Compact_string g 0 m l w (holds_of_block o (by simpa using M)) ω z).mono ?_;rintro e w' ⟨rfl,q,rfl⟩;rw[Un];have X:=If l;have D:∀W d,Sort.grow (Sort.putRow encStr (Sort.ahead W q) g 0 d) #[]=Sort.putRow encStr (Sort.ahead W q) g 0 d:=λW d=>Sort.grow_empty _;have F:=grownBy_sorted (w:=w) (g:=g) (n:=q) (os:=#[]) (d7 l++List.replicate (l.length-(d7 l).length) []).toArray;rw[D]at F;refine⟨_,rfl,?_,F⟩;have:=ownsRow_sorted (n:=q) (os:=#[]) (base:=base) (ts:=d7 l++List.replicate (l.length-(d7 l).length) []) (show _=l.length by simp;omega) J o z K L;rw[D]at this;have O:Ow (Sort.putRow encStr (Sort.ahead w q) g 0 (d7 l++List.replicate (l.length-(d7 l).length) []).toArray) base eS (.slice (some ⟨g,0,none⟩) l.length m) (d7 l++List.replicate (l.length-(d7 l).length) []):=(by unfold Ow;rw[vL];have Q:(d7 l++List.replicate (l.length-(d7 l).length) []).length=l.length:=(by simp;omega);rw[Q];exact this);have R:=O.take (j:=(d7 l).length) σ;rwa [nK]at R
