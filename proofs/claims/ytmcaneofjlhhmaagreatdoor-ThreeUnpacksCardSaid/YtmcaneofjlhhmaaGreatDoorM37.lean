/- Lemmas. -/
import Derived.Test.YtmcaneofjlhhmaaGreatDoorM01
import Derived.Test.YtmcaneofjlhhmaaGreatDoorShelf
import Derived.Sort.OwnSorted
set_option linter.all false
set_option maxHeartbeats 8000000
namespace Go.Proofs
open RowKit Fk Tryz
def si(l:List U0):eS.cells l=l.map encStr:=by
 induction l with
 | nil=>rfl
 | cons x l d=>show [S x]++eS.cells l=_;rw[d];rfl
theorem DX:∀(l:List U0) (x:U0),dJ (l++[x])=dJ l++(if l.getLast?=some x then []else [x])
 | [],x=>by simp[dJ]
 | [a],x=>by
  by_cases h:a=x
  ·subst h;simp[dJ]
  ·simp[dJ,h]
 | a::b::l,x=>by
  have d:=DX (b::l) x
  have e:(a::b::l).getLast?=(b::l).getLast?:=by simp[List.getLast?_cons_cons]
  rw[e]
  simp only[lR]at d ⊢
  rw[dJ,dJ,d]
  split <;> simp
def MY(l:List U0):Lib.compact l=dJ l:=by
 have o:∀m,m<=l.length->Lib.compactUpTo l.toArray m=dJ (l.take m):=by
  intro m
  induction m with
  | zero=>intro _;simp[Lib.compactUpTo,dJ]
  | succ m p=>
   intro D;have d:m<l.length:=ω;rw[Lib.compactUpTo_succ,p ω,ea d,DX];congr 1;have f:l.toArray[m]! = l[m]:=(by simp[d]);rw[f]
   cases m with
   | zero=>simp[Lib.keeps]
   | succ k=>
    have q:l.toArray[k+1-1]! = l[k]:=(by simp[show k<l.length by omega]);have z:(l.take (k+1)).getLast?=some l[k]:=(by rw[ea ω];exact List.getLast?_concat);unfold Lib.keeps;rw[f,q,z];by_cases h:l[k+1]=l[k];·simp[h]
    ·have A:¬l[k]=l[k+1]:=λe=>h e.symm;simp[h,A]
 have:=o l.length (au _);rw[dP]at this;exact this
theorem DY:∀(l:List U0),(dJ l).length<=l.length
 | []=>by simp[dJ]
 | [a]=>by simp[dJ]
 | a::b::l=>by
  have:=DY (b::l)
  rw[dJ]
  split
  ·simp at this ⊢;omega
  ·simp at this ⊢;omega
def OL(v:Value)(l:List U0)(base:Nat)(w:World)(h:Ow w base eS v l)(I:l.length<=1000000000):Calls prog 138 #[v] w λe w'=>e=.returned (.tuple #[])/\Ow w' base eS v (l.mergeSort λx y=>decide (x<=y))/\w.grownBy w' v.ownBlock:=by
 have m:w.ownsRow base eS.e 1 v l.length (l.map encStr):=by rw[<- si];exact h
 rcases m.2 with⟨rfl,o⟩ | ⟨g,p,J,rfl,q,d,z,D,F,G⟩;·obtain rfl:l=[]:=kN o;refine(slices_Sort_string_none none 0 w).mono ?_;rintro e w' ⟨rfl,rfl⟩;exact⟨rfl,by simpa using h,⟨rfl,rfl,rfl,au _,λ_ _ _=>rfl⟩⟩
 ·refine(slices_Sort_string g 0 p l w (holds_of_block d (by simpa using G)) (aX.1 d).1 ω).mono ?_;rintro e w' ⟨rfl,n,os,rfl⟩;refine⟨rfl,?_,grownBy_sorted _⟩;have:=ownsRow_sorted (n:=n) (os:=os) (base:=base) (show(l.mergeSort λx y=>decide (x<=y)).length=l.length by simp) q d z D F;unfold Ow;rw[si,List.length_mergeSort];exact this
def ON(v:Value)(l:List U0)(base:Nat)(w:World)(h:Ow w base eS v l)(R:l.length<=1000000000):Calls prog 139 #[v] w λe w'=>∃v',e=.returned v'/\Ow w' base eS v' (dJ l)/\w.grownBy w' v.ownBlock:=by
 have F:w.ownsRow base eS.e 1 v l.length (l.map encStr):=by rw[<- si];exact h
 rcases F.2 with⟨rfl,G⟩ | ⟨g,m,U,rfl,I,o,p,J,K,L⟩;·obtain rfl:l=[]:=kN G;refine(slices_Compact_string_empty none 0 w).mono ?_;rintro e w' ⟨rfl,rfl⟩;exact⟨_,rfl,h,⟨rfl,rfl,rfl,au _,λ_ _ _=>rfl⟩⟩
 ·refine(slices_Compact_string g 0 m l w (holds_of_block o (by simpa using L)) ω p).mono ?_;rintro e w' ⟨rfl,q,rfl⟩;rw[MY];have V:=DY l;have z:∀W d,Sort.grow (Sort.putRow encStr (Sort.ahead W q) g 0 d) #[]=Sort.putRow encStr (Sort.ahead W q) g 0 d:=λW d=>Sort.grow_empty _;have D:=grownBy_sorted (w:=w) (g:=g) (n:=q) (os:=#[]) (dJ l++List.replicate (l.length-(dJ l).length) []).toArray;rw[z]at D;refine⟨_,rfl,?_,D⟩;have:=ownsRow_sorted (n:=q) (os:=#[]) (base:=base) (ts:=dJ l++List.replicate (l.length-(dJ l).length) []) (show _=l.length by simp;omega) I o p J K;rw[z]at this;have M:Ow (Sort.putRow encStr (Sort.ahead w q) g 0 (dJ l++List.replicate (l.length-(dJ l).length) []).toArray) base eS (.slice (some ⟨g,0,none⟩) l.length m) (dJ l++List.replicate (l.length-(dJ l).length) []):=(by unfold Ow;rw[si];have O:(dJ l++List.replicate (l.length-(dJ l).length) []).length=l.length:=(by simp;omega);rw[O];exact this);have Q:=M.take (j:=(dJ l).length) σ;rwa [List.take_left]at Q
