/- Parts of the proof of ArchEnds: Lib2. -/
import Derived.Test.YtfpijnhhdfoohaaGreatDoorM02
import Derived.ChangeKeysEq
set_option linter.unusedVariables false
set_option linter.unusedSectionVars false
set_option linter.unusedSimpArgs false
set_option maxHeartbeats 8000000
namespace Go.Fk
abbrev aeQb:=@if_neg
abbrev aGQb:=@List.length_take
abbrev rxQb:=@Nat.add_assoc
end Go.Fk
namespace Go.Fk
open Go.RowKit
section
variable {P:Program} {α:Type}
theorem pr(E:au P α)(w:World):(sizeOf E.e).run P w=.ok E.k w:=by
 obtain⟨i,d,h,e,m⟩:=nk E.info;simp [sizeOf,typeInfo,d,e]
theorem ai.drop{E:au P α}{w:World}{a:Option Addr}{n d:Nat}{l:List α}(h:ai w E (.slice a n d) l){k:Nat}(q:k<=l.length) :
  ai w E (.slice (if d=k then a else a.map (·.add (k*E.k))) (l.length - k) (d - k)) (l.drop k):=by
 obtain⟨I,J,K,o,L,M,z,m⟩:=h;simp only [go]at o;obtain⟨rfl,rfl,rfl⟩:=o;have A:(l.drop k).length=l.length - k:=by simp
 refine⟨E.length_cells _,_,_,by rw [A],by omega,by omega,?_,?_⟩
 · intro e;have:a=none:=by
    split at e;· exact e
    · simpa using e
   have:=z this;constructor <;> omega
 · rcases m with m | ⟨b,B,rfl,m⟩;· left;omega
   · by_cases D:d=k;· left;omega
     · right;refine⟨b,B+k*E.k,by rw [aeQb D];simp [Addr.add],fun j u F=>?_⟩;have e:=E.cells_append (l.take k) (l.drop k);rw [j9]at e;have G:(E.cells (l.take k)).length=k*E.k:=(by rw [E.length_cells,aGQb,gx q]);rw [rxQb];refine m (k*E.k+j) u ?_;rw [e,vC (by omega),G,Nat.add_sub_cancel_left];exact F
theorem iy(E:au P α)(t:TypeId)(m:P.underlying t=some (.slice E.e)){w:World}{a:Option Addr}{n o:Nat}{l:List α}(h:ai w E (.slice a n o) l)(k:Nat)(z:k<=l.length) :
  ∃ d e,(∀ W,(Instr.slice t (.slice a n o) (some (.int .i64 (k:Int))) none none).run P W=.ok (.slice d (l.length - k) e) W)/\ai w E (.slice d (l.length - k) e) (l.drop k):=by
 have A:P.underlying t=some (.slice (P.elem t)):=by simp [Program.elem,m]
 have B:P.elem t=E.e:=by simp [Program.elem,m]
 obtain⟨d,e,q,_⟩:=h.shape;simp only [go]at q;obtain⟨rfl,rfl,rfl⟩:=q;refine⟨_,_,fun W=>?_,h.drop z⟩;rw [run_slice_l W t _ _ _ A .i64 _ (by omega) (by omega),B,pr];simp [Result.andThen,sliced]
theorem gD(E:au P α)(t:TypeId)(e:P.underlying t=some (.slice E.e)){w:World}{a:Option Addr}{n d:Nat}{l:List α}(h:ai w E (.slice a n d) l)(k:Nat)(o:k<=l.length) :
  (∀ W,(Instr.slice t (.slice a n d) none (some (.int .i64 (k:Int))) none).run P W=.ok (.slice a k d) W)/\ai w E (.slice a k d) (l.take k):=by
 have q:P.underlying t=some (.slice (P.elem t)):=by simp [Program.elem,e]
 have z:P.elem t=E.e:=by simp [Program.elem,e]
 obtain⟨A,B,m,D,F,G⟩:=h.shape;simp only [go]at m;obtain⟨rfl,rfl,rfl⟩:=m;refine⟨fun W=>?_,h.take o⟩;rw [run_slice_h W t _ _ _ q .i64 _ (by omega) (by omega),z,pr];simp [Result.andThen,sliced]
 cases a with
 | none=>simp
 | some a=>simp [Addr.add]
theorem wD(E:au P α)(t:TypeId)(m:P.underlying t=some (.slice E.e)){w:World}{a:Option Addr}{n o:Nat}{l:List α}(h:ai w E (.slice a n o) l)(i k:Nat)(G:i<=k)(A:k<=l.length) :
  ∃ d e,(∀ W,(Instr.slice t (.slice a n o) (some (.int .i64 (i:Int))) (some (.int .i64 (k:Int))) none).run P W=.ok (.slice d (k - i) e) W)/\ai w E (.slice d (k - i) e) ((l.take k).drop i):=by
 have B:P.underlying t=some (.slice (P.elem t)):=by simp [Program.elem,m]
 have D:P.elem t=E.e:=by simp [Program.elem,m]
 obtain⟨d,e,q,I,J,K⟩:=h.shape;simp only [go]at q;obtain⟨rfl,rfl,rfl⟩:=q;have F:(l.take k).length=k:=by simp;omega
 have z:=(h.take A).drop (k:=i) (by omega);rw [F]at z;refine⟨_,_,fun W=>?_,z⟩;rw [run_slice_lh W t _ _ _ B .i64 .i64 _ _ (by omega) (by omega) (by omega),D,pr];simp [Result.andThen,sliced]
theorem ai.cell1{E:au P α}{w:World}{v:Value}{l:List α}(h:ai w E v l)(f:α->Value)(q:E.enc=fun x=>[f x])(k:Nat)(o:k<l.length) :
  ∃ b d m,v=.slice (some ⟨b,d,none⟩) l.length m/\w.cell? ⟨b,d+k,none⟩=some (f l[k]):=by
 obtain⟨b,d,m,z,_,_,A⟩:=h.at1 f q (by intro e;simp [e]at o);exact⟨b,d,m,z,A k o⟩
end
end Go.Fk
