/- Parts of the proof of ArchPacks: Lib3 Lib4. -/
import Derived.Test.YtdamnfpigajmoaaGreatDoorM02
import Derived.Lib.AppendZeros
set_option linter.unusedVariables false
set_option linter.unusedSectionVars false
set_option linter.unusedSimpArgs false
set_option maxHeartbeats 8000000
namespace Go.Fk
abbrev cLQb:=@List.take_succ_eq_append_getElem
abbrev eWQb:=@List.getElem_append_left
abbrev gu:=@List.getElem_append_right
abbrev e8:=@Nat.sub_self
abbrev lyQb:=@List.flatten_append
end Go.Fk
namespace Go.Fk
open Go.RowKit
section
variable {P:Program} {α:Type}
theorem DB(E:al P α)(w:World)(t e m:TypeId)(k o:IntKind)(h:P.underlying t=some (.slice E.e))(q:P.underlying e=some (.int o))(n:Nat)(y:0<n)(z:n<=2147483648) :
  ∃ d w',(Builtin.append_ #[t,e] m #[.slice none 0 0,.int k n]).run P w=.ok (.slice (some ⟨w.heap.size,0,none⟩) n d) w'/\Ow w' w.heap.size E (.slice (some ⟨w.heap.size,0,none⟩) 0 d) ([]:List α)/\Fr w w'/\n<=d /\
   (∀ W,(Instr.slice t (.slice (some ⟨w.heap.size,0,none⟩) n d) none (some (.int .i64 0)) none).run P W=.ok (.slice (some ⟨w.heap.size,0,none⟩) 0 d) W):=by
 obtain⟨i,A,D,O,F⟩:=lR E.info;have Q:=E.pos;have G:E.z.cells.size=E.k:=by have:=fX List.length E.zs;rw [E.len]at this;simpa using this
 have I := Lib.run_append_nil_zeros (P := P) w t e m E.e i E.z k o h q A D n y (by omega) (by omega) (by
  rw [F];have := E.small
  calc n * E.bytes ≤ 2147483648 * 64 := b7 z this
   _ ≤ 281474976710656 := by omega)
 have J:=grownCap_ge w n 0 E.e;have K:=grownCap_le_maxLen w n 0 E.e (by unfold maxLen;omega);have L:P.underlying t=some (.slice (P.elem t)):=by simp [Program.elem,h]
 have M:P.elem t=E.e:=by simp [Program.elem,h]
 refine⟨_,_,I,?_,((Fr.refl w).drewN 1).alloc _,J,fun W=>?_⟩
 · refine⟨by simp [al.cells],.inr ⟨w.heap.size,grownCap w n 0 E.e,_,rfl,ag _,au w.drew _ _ rfl,ap _,K,?_,?_⟩⟩;· simp only [Array.size_append,size_zeroCells,G];rw [<- cr];congr 1;omega
   · simp [al.cells]
 · rw [run_slice_h W t _ _ _ L .i64 0 (by omega) (by omega),M,mn];simp [Result.andThen,sliced,Addr.add]
end
structure Hd where
 a:Option Addr
 n:Nat
 c:Nat
abbrev Hd.v(h:Hd):Value:=.slice h.a h.n h.c
section
variable {P:Program} {α:Type}
def bY(w:World)(m:al P Hd)(E:al P α)(v:Value)(d:List Hd)(e:List (List α)):Prop:=
 af w m v d/\d.length=e.length/\∀ i (h:i<d.length) (o:i<e.length),af w E d[i].v e[i]
theorem bY.fr{w w':World}{d:al P Hd}{E:al P α}{v:Value}{e:List Hd}{m:List (List α)}(h:bY w d E v e m)(o:Fr w w'):bY w' d E v e m:=
 ⟨h.1.fr o,h.2.1,fun i q y=>(h.2.2 i q y).fr o⟩
theorem bY.snoc{w w':World}{m:al P Hd}{E:al P α}{v v':Value}{d:List Hd}{e:List (List α)}{x:Hd}{l:List α}(h:bY w m E v d e)(y:Fr w w')(z:af w' m v' (d++[x]))(A:af w' E x.v l):bY w' m E v' (d++[x]) (e++[l]):=by
 refine⟨z,by simp [h.2.1],fun i D I=>?_⟩;by_cases o:i<d.length;· have q:i<e.length:=(by rw [<- h.2.1];exact o);simp only [eWQb o,eWQb q];exact(h.2.2 i o q).fr y
 · have F:i=d.length:=(by simp at D;omega);subst F;simp only [gu (ag _),e8];have G:d.length=e.length:=h.2.1;simp only [G,gu (ag _),e8];exact A
theorem pd{α:Type}(d:List (List α))(k:Nat)(h:k<d.length):(d.take (k+1)).flatten=(d.take k).flatten++d[k]:=by
 rw [cLQb h,lyQb];simp
theorem nK{α:Type}(d:List (List α))(k:Nat):(d.take k).flatten.length<=d.flatten.length:=by
 conv=>rhs;rw [<- kI k d]
 rw [lyQb,an];omega
end
section
variable {P:Program} {α:Type} {w:World} {base:Nat} {v:Value} {l:List α}
theorem il{a b:Option Nat}(h:a=none\/a≠b):b=none\/b≠a:=by
 cases b with
 | none=>exact .inl rfl
 | some g=>
  rcases h with h | h;· exact .inr (by rw [h];simp)
  · exact .inr (fun e=>h e.symm)
theorem jH{β:Type}{E:al P α}{F:al P β}{w':World}{d:Nat}{x:Value}{m:List β}(h:Ow w base E v l)(o:Ow w' d F x m)(y:w.heap.size<=d):x.ownBlock=none\/x.ownBlock≠v.ownBlock:=by
 cases q:x.ownBlock with
 | none=>exact .inl rfl
 | some g=>refine .inr fun e=>?_;have z:=o.lt g q;have A:=h.lt g e.symm;omega
end
end Go.Fk
