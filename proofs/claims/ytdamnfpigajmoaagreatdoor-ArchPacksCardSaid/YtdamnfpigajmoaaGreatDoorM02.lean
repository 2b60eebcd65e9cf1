/- Parts of the proof of ArchPacks: Lib2. -/
import Derived.Test.YtdamnfpigajmoaaGreatDoorM00
import Derived.ChangeKeysEq
set_option linter.unusedVariables false
set_option linter.unusedSectionVars false
set_option linter.unusedSimpArgs false
set_option maxHeartbeats 8000000
namespace Go.Fk
abbrev ahQb:=@if_neg
abbrev aVQb:=@List.length_take
abbrev rV:=@Nat.add_sub_cancel_left
abbrev mJ:=@Nat.add_assoc
end Go.Fk
namespace Go.Fk
open Go.RowKit
section
variable {P:Program} {α:Type}
theorem mn(E:al P α)(w:World):(sizeOf E.e).run P w=.ok E.k w:=by
 obtain⟨i,d,h,e,m⟩:=lR E.info;simp [sizeOf,typeInfo,d,e]
theorem af.drop{E:al P α}{w:World}{a:Option Addr}{n d:Nat}{l:List α}(h:af w E (.slice a n d) l){k:Nat}(q:k<=l.length) :
  af w E (.slice (if d=k then a else a.map (·.add (k*E.k))) (l.length - k) (d - k)) (l.drop k):=by
 obtain⟨I,J,K,o,L,M,y,m⟩:=h;simp only [ed]at o;obtain⟨rfl,rfl,rfl⟩:=o;have z:(l.drop k).length=l.length - k:=by simp
 refine⟨E.length_cells _,_,_,by rw [z],by omega,by omega,?_,?_⟩
 · intro e;have:a=none:=by
    split at e;· exact e
    · simpa using e
   have:=y this;constructor <;> omega
 · rcases m with m | ⟨b,A,rfl,m⟩;· left;omega
   · by_cases D:d=k;· left;omega
     · right;refine⟨b,A+k*E.k,by rw [ahQb D];simp [Addr.add],fun j u F=>?_⟩;have e:=E.cells_append (l.take k) (l.drop k);rw [kI]at e;have G:(E.cells (l.take k)).length=k*E.k:=(by rw [E.length_cells,aVQb,gr q]);rw [mJ];refine m (k*E.k+j) u ?_;rw [e,vQ (by omega),G,rV];exact F
theorem kp(E:al P α)(t:TypeId)(m:P.underlying t=some (.slice E.e)){w:World}{a:Option Addr}{n o:Nat}{l:List α}(h:af w E (.slice a n o) l)(k:Nat)(y:k<=l.length) :
  ∃ d e,(∀ W,(Instr.slice t (.slice a n o) (some (.int .i64 (k:Int))) none none).run P W=.ok (.slice d (l.length - k) e) W)/\af w E (.slice d (l.length - k) e) (l.drop k):=by
 have z:P.underlying t=some (.slice (P.elem t)):=by simp [Program.elem,m]
 have A:P.elem t=E.e:=by simp [Program.elem,m]
 obtain⟨d,e,q,_⟩:=h.shape;simp only [ed]at q;obtain⟨rfl,rfl,rfl⟩:=q;refine⟨_,_,fun W=>?_,h.drop y⟩;rw [run_slice_l W t _ _ _ z .i64 _ (by omega) (by omega),A,mn];simp [Result.andThen,sliced]
theorem j9(E:al P α)(t:TypeId)(e:P.underlying t=some (.slice E.e)){w:World}{a:Option Addr}{n d:Nat}{l:List α}(h:af w E (.slice a n d) l)(k:Nat)(o:k<=l.length) :
  (∀ W,(Instr.slice t (.slice a n d) none (some (.int .i64 (k:Int))) none).run P W=.ok (.slice a k d) W)/\af w E (.slice a k d) (l.take k):=by
 have q:P.underlying t=some (.slice (P.elem t)):=by simp [Program.elem,e]
 have y:P.elem t=E.e:=by simp [Program.elem,e]
 obtain⟨z,A,m,D,F,G⟩:=h.shape;simp only [ed]at m;obtain⟨rfl,rfl,rfl⟩:=m;refine⟨fun W=>?_,h.take o⟩;rw [run_slice_h W t _ _ _ q .i64 _ (by omega) (by omega),y,mn];simp [Result.andThen,sliced]
 cases a with
 | none=>simp
 | some a=>simp [Addr.add]
theorem qE(E:al P α)(t:TypeId)(m:P.underlying t=some (.slice E.e)){w:World}{a:Option Addr}{n o:Nat}{l:List α}(h:af w E (.slice a n o) l)(i k:Nat)(G:i<=k)(z:k<=l.length) :
  ∃ d e,(∀ W,(Instr.slice t (.slice a n o) (some (.int .i64 (i:Int))) (some (.int .i64 (k:Int))) none).run P W=.ok (.slice d (k - i) e) W)/\af w E (.slice d (k - i) e) ((l.take k).drop i):=by
 have A:P.underlying t=some (.slice (P.elem t)):=by simp [Program.elem,m]
 have D:P.elem t=E.e:=by simp [Program.elem,m]
 obtain⟨d,e,q,I,J,K⟩:=h.shape;simp only [ed]at q;obtain⟨rfl,rfl,rfl⟩:=q;have F:(l.take k).length=k:=by simp;omega
 have y:=(h.take z).drop (k:=i) (by omega);rw [F]at y;refine⟨_,_,fun W=>?_,y⟩;rw [run_slice_lh W t _ _ _ A .i64 .i64 _ _ (by omega) (by omega) (by omega),D,mn];simp [Result.andThen,sliced]
theorem Ow.to{E:al P α}{w:World}{base:Nat}{a:Option Addr}{n e:Nat}{l:List α}(h:Ow w base E (.slice a n e) l){k:Nat}(m:k<=l.length):Ow w base E (.slice a k e) (l.take k):=by
 by_cases o:a=none;· subst o;obtain⟨z,q,d,_,_,y⟩:=h.see.shape;simp only [ed]at d;obtain⟨rfl,rfl,rfl⟩:=d;obtain⟨rfl,rfl⟩:=y rfl;have:k=0:=(by simpa using m);subst this;exact h
 · rcases h.2 with⟨d,_⟩ | ⟨g,q,A,d,_⟩;· cases d;exact absurd rfl o
   · simp only [ed]at d;obtain⟨rfl,rfl,rfl⟩:=d;exact h.take m
theorem af.cell1{E:al P α}{w:World}{v:Value}{l:List α}(h:af w E v l)(f:α->Value)(q:E.enc=fun x=>[f x])(k:Nat)(o:k<l.length) :
  ∃ b d m,v=.slice (some ⟨b,d,none⟩) l.length m/\w.cell? ⟨b,d+k,none⟩=some (f l[k]):=by
 obtain⟨b,d,m,y,_,_,z⟩:=h.at1 f q (by intro e;simp [e]at o);exact⟨b,d,m,y,z k o⟩
end
end Go.Fk
