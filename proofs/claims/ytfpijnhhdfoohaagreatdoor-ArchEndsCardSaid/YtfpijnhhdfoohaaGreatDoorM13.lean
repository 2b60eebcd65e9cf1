/- Parts of the proof of ArchEnds: LibZ. -/
import Derived.Test.YtfpijnhhdfoohaaGreatDoorM11
import Derived.Lib.AppendZerosOnto
set_option linter.unusedVariables false
set_option linter.unusedSectionVars false
set_option linter.unusedSimpArgs false
set_option maxHeartbeats 8000000
namespace Go.Fk
open Go.RowKit
section
variable {P:Program} {α:Type}
theorem Fm(E:au P α)(n:Nat):(Builtin.zeroCells E.z.cells n).toList=E.cells (List.replicate n E.zero):=by
 have d:E.z.cells.size=E.k:=by have:=gS List.length E.zs;rw [E.len]at this;simpa using this
 rw [<- Cj];unfold Builtin.zeroCells madeCells;rw [d]
theorem Jf(E:au P α)(w:World)(base:Nat)(t A I:TypeId)(J M:IntKind)(O:P.underlying t=some (.slice E.e))(Q:P.underlying A=some (.int M)){v:Value}{l:List α}(R:Ow w base E v l)
  (m:Nat) (h0:0<m) (hn:l.length+m<=2147483648) (hbase:base<=w.heap.size) :
  ∃ v' w',(Builtin.append_ #[t,A] I #[v,.int J m]).run P w=.ok v' w'/\dg base E (l++List.replicate m E.zero) w v v' w':=by
 obtain⟨i,U,V,h1,h2⟩:=nk E.info;have q:=E.pos;have K:E.z.cells.size=E.k:=by have:=gS List.length E.zs;rw [E.len]at this;simpa using this
 have X:=Fm E m;have z:(l++List.replicate m E.zero).length=l.length+m:=by simp
 have ak:∀ x,x<=2147483648->x*i.bytes<=140737488355328:=fun x Y=>by
  rw [h2];have:=E.small
  calc x * E.bytes ≤ 2147483648 * 64 := bJ Y this
   _<=140737488355328:=by omega
 have L:∀ x,x<=2147483648->x*i.bytes<=281474976710656:=fun x Y=>az (ak x Y) (by omega)
 have ap:∀ B (a0:Option Nat),dg base E (l++List.replicate m E.zero) w (.slice none 0 0) (.slice (some ⟨w.heap.size,0,none⟩) (l.length+m) (grownCap w (l.length+m) B E.e))
   (w.drew.alloc (.cells ((E.cells l).toArray++Builtin.zeroCells E.z.cells m++Builtin.zeroCells E.z.cells (grownCap w (l.length+m) B E.e - (l.length+m))) E.e)):=by
  intro B a0
  have a1:=grownCap_ge w (l.length+m) B E.e
  have a2:=grownCap_le_maxLen w (l.length+m) B E.e (by unfold maxLen;omega)
  refine⟨⟨E.length_cells _,.inr ⟨w.heap.size,_,_,by rw [z],hbase,a9 w.drew _ _ rfl,by rw [z];exact a1,a2,?_,?_⟩⟩,⟨rfl,rfl,rfl,by simp,fun k q _=>heap_alloc_old w.drew _ q⟩,fun b D=>.inr ?_⟩
  · simp only [Array.size_append,size_zeroCells,K,qg,E.length_cells]
    rw [<- bU,<- bU];congr 1;omega
  · rw [z,E.cells_append,<- X]
    simp only [Array.toList_append]
    rw [zi (by simp [E.length_cells,size_zeroCells,K,bU]),eC (by simp [E.length_cells,size_zeroCells,K,bU])]
  · simp [Value.ownBlock]at D;omega
 rcases R.2 with⟨rfl,a3⟩ | ⟨g,o,F,rfl,a4,d,bm,a5,a6,a7⟩;· obtain rfl:l=[]:=ja a3;have G:=Lib.run_append_grow_zeros (P:=P) w t A I E.e i E.z J M O Q U V none 0 0 [] (by simp [run_firstCells_none]) m h0 (by omega) (by omega) (by simp at hn;omega) (L m (by simp at hn;omega)) (by rw [iX,nextslicecap_zero h0];exact L m (by simp at hn;omega));have d:=ap 0 none;exact⟨_,_,G,d⟩
 · have aC:∀ j u,(E.cells l)[j]?=some u->w.cell? ((⟨g,0,none⟩:Addr).add j)=some u:=R.cells (g:=g) rfl;by_cases Z:l.length+m<=o
   · have aa:(Builtin.zeroCells E.z.cells m).toList.length=m*E.k:=(by rw [zr,size_zeroCells,K]);have bs:l.length*E.k+m*E.k<=F.size:=(by rw [a6,<- bU];exact dm _ Z);have ab:=run_storeCells_at P g (l.length*E.k) E.e (Builtin.zeroCells E.z.cells m).toList 0 F w d (by rw [aa];omega) (by rw [X];exact E.cells_mem _);simp only [et]at ab;have hw:IntKind.i64.wrap (m:Int)=m:=(by rw [IntKind.wrap_i64];omega);have bb:¬((m:Int)<0):=(by omega);have bc:¬(281474976710656<(m:Int)*(i.bytes:Int)):=(by rw [<- qp];have:=L m (by omega);omega);have bd:m≠0:=(by omega);have bf:i.size≠0:=(by omega);have bk:¬(m*i.size=0):=Nat.mul_ne_zero bd bf;have G:(Builtin.append_ #[t,A] I #[.slice (some ⟨g,0,none⟩) l.length o,.int J m]).run P w=.ok (.slice (some ⟨g,0,none⟩) (l.length+m) o) (w.setRow g (F.toList.take (l.length*E.k)++(Builtin.zeroCells E.z.cells m).toList++F.toList.drop (l.length*E.k+(Builtin.zeroCells E.z.cells m).toList.length)).toArray):=(by rw [<- h1]at ab ⊢;simp [-Array.length_toList,Builtin.append_,run_underlying O,run_underlying Q,sizeOf,typeInfo,zeroValue,U,V,asInt,asIntOf,hw,bb,bc,bk,Z,ny,ab]);refine⟨_,_,G,⟨E.length_cells _,.inr ⟨g,o,_,by rw [z],a4,cP w g F _ E.e _ d,by rw [z];exact Z,a5,?_,?_⟩⟩,⟨rfl,rfl,rfl,by simp,fun k _ q=>setRow_other w g k _ (fun e=>q (by simp [e,Value.ownBlock]))⟩,fun b D=>.inl D⟩;· simp only [qg,aD,aG,aU,aa,zr];omega
     · rw [z,E.cells_append,<- X,a7,bU];exact List.take_left' (by rw [aD,E.length_cells,aa])
   · have hf:=run_firstCells_some (P:=P) w.drew i.size l.length ⟨g,0,none⟩ l.length o (E.cells l) (by rw [h1];exact R.1) (by simpa using aC);have G:=Lib.run_append_grow_zeros (P:=P) w t A I E.e i E.z J M O Q U V (some ⟨g,0,none⟩) l.length o (E.cells l) hf m h0 (by omega) (by omega) (by omega) (L m (by omega)) (growslice_fits (by omega) (ak _ hn));have d:=ap o none;exact⟨_,_,G,d.own,⟨d.chg.os,d.chg.tape,d.chg.output,d.chg.size,fun k q _=>d.chg.block k q (by simp [Value.ownBlock])⟩,fun b D=>(d.fresh b D).elim (fun h=>by simp [Value.ownBlock]at h) .inr⟩
end
end Go.Fk
