/- Lemmas. -/
import Derived.Test.YtmcaneofjlhhmaaGreatDoorM11
import Derived.Lib.AppendZerosOnto
set_option linter.all false
set_option maxHeartbeats 8000000
namespace Go.Fk
abbrev kQ:=@Int.natCast_mul
open Go.RowKit
section
variable {P:Program} {α:Type}
theorem FD(E:aJ P α)(n:Nat):(Builtin.zeroCells E.z.cells n).toList=E.cells (List.replicate n E.zero):=by
 have d:E.z.cells.size=E.k:=by have:=iG List.length E.zs;rw[E.len]at this;simpa using this
 rw[<- K0];unfold Builtin.zeroCells madeCells;rw[d]
theorem Ix(E:aJ P α)(w:World)(base:Nat)(t q G:TypeId)(I L:IntKind)(M:P.underlying t=some (.slice E.e))(O:P.underlying q=some (.int L)){v:Value}{l:List α}(Q:Ow w base E v l)
  (m:Nat) (h0:0<m) (hn:l.length+m<=2147483648) (hbase:base<=w.heap.size) :
  ∃v' w',(Builtin.append_ #[t,q] G #[v,.int I m]).run P w=.ok v' w'/\dF base E (l++List.replicate m E.zero) w v v' w':=by
 obtain⟨i,R,U,h1,h2⟩:=of E.info;have o:=E.pos;have J:E.z.cells.size=E.k:=by have:=iG List.length E.zs;rw[E.len]at this;simpa using this
 have V:=FD E m;have p:(l++List.replicate m E.zero).length=l.length+m:=σ
 have ab:∀x,x<=2147483648->x*i.bytes<=140737488355328:=λx W=>by
  rw[h2];have:=E.small
  calc x * E.bytes ≤ 2147483648 * 64 := bo W this
   _<=140737488355328:=ω
 have K:∀x,x<=2147483648->x*i.bytes<=281474976710656:=λx W=>ar (ab x W) ω
 have ac:∀z (ai:Option Nat),dF base E (l++List.replicate m E.zero) w (.slice none 0 0) (.slice (some ⟨w.heap.size,0,none⟩) (l.length+m) (grownCap w (l.length+m) z E.e))
   (w.drew.alloc (.cells ((E.cells l).toArray++Builtin.zeroCells E.z.cells m++Builtin.zeroCells E.z.cells (grownCap w (l.length+m) z E.e-(l.length+m))) E.e)):=by
  intro z ai
  have aj:=grownCap_ge w (l.length+m) z E.e
  have ak:=grownCap_le_maxLen w (l.length+m) z E.e (by unfold maxLen;omega)
  refine⟨⟨E.length_cells _,.inr ⟨w.heap.size,_,_,by rw[p],hbase,aD w.drew _ _ rfl,by rw[p];exact aj,ak,?_,?_⟩⟩,⟨rfl,rfl,rfl,σ,λk o _=>heap_alloc_old w.drew _ o⟩,λb A=>.inr ?_⟩
  ·simp only[Array.size_append,size_zeroCells,J,lO,E.length_cells]
   rw[<- bP,<- bP];congr 1;omega
  ·rw[p,E.cells_append,<- V]
   simp only[Array.toList_append]
   rw[FA (by simp[E.length_cells,size_zeroCells,J,bP]),dNQb (by simp[E.length_cells,size_zeroCells,J,bP])]
  ·simp[Value.ownBlock]at A;omega
 rcases Q.2 with⟨rfl,al⟩ | ⟨g,f,D,rfl,am,d,a8,ap,av,az⟩;·obtain rfl:l=[]:=kN al;have F:=Lib.run_append_grow_zeros (P:=P) w t q G E.e i E.z I L M O R U none 0 0 [] (by simp[run_firstCells_none]) m h0 ω ω (by simp at hn;omega) (K m (by simp at hn;omega)) (by rw[jZ,nextslicecap_zero h0];exact K m (by simp at hn;omega));have d:=ac 0 none;exact⟨_,_,F,d⟩
 ·have a0:∀j u,(E.cells l)[j]?=some u->w.cell? ((⟨g,0,none⟩:Addr).add j)=some u:=Q.cells (g:=g) rfl;by_cases X:l.length+m<=f
  ·have Y:(Builtin.zeroCells E.z.cells m).toList.length=m*E.k:=(by rw[zB,size_zeroCells,J]);have a9:l.length*E.k+m*E.k<=D.size:=(by rw[av,<- bP];exact cY _ X);have Z:=run_storeCells_at P g (l.length*E.k) E.e (Builtin.zeroCells E.z.cells m).toList 0 D w d (by rw[Y];omega) (by rw[V];exact E.cells_mem _);simp only[g8]at Z;have hw:IntKind.i64.wrap (m:Int)=m:=(by rw[IntKind.wrap_i64];omega);have a2:¬((m:Int)<0):=ω;have a3:¬(281474976710656<(m:Int)*(i.bytes:Int)):=(by rw[<- kQ];have:=K m ω;omega);have a4:m≠0:=ω;have a5:i.size≠0:=ω;have a6:¬(m*i.size=0):=Nat.mul_ne_zero a4 a5;have F:(Builtin.append_ #[t,q] G #[.slice (some ⟨g,0,none⟩) l.length f,.int I m]).run P w=.ok (.slice (some ⟨g,0,none⟩) (l.length+m) f) (w.setRow g (D.toList.take (l.length*E.k)++(Builtin.zeroCells E.z.cells m).toList++D.toList.drop (l.length*E.k+(Builtin.zeroCells E.z.cells m).toList.length)).toArray):=(by rw[<- h1]at Z ⊢;simp[-Array.length_toList,Builtin.append_,run_underlying M,run_underlying O,sizeOf,typeInfo,zeroValue,R,U,asInt,asIntOf,hw,a2,a3,a6,X,lw,Z]);refine⟨_,_,F,⟨E.length_cells _,.inr ⟨g,f,_,by rw[p],am,bY w g D _ E.e _ d,by rw[p];exact X,ap,?_,?_⟩⟩,⟨rfl,rfl,rfl,σ,λk _ o=>setRow_other w g k _ (λe=>o (by simp[e,Value.ownBlock]))⟩,λb A=>.inl A⟩;·simp only[lO,aM,aP,bn,Y,zB];omega
   ·rw[p,E.cells_append,<- V,az,bP];exact List.take_left' (by rw[aM,E.length_cells,Y])
  ·have hf:=run_firstCells_some (P:=P) w.drew i.size l.length ⟨g,0,none⟩ l.length f (E.cells l) (by rw[h1];exact Q.1) (by simpa using a0);have F:=Lib.run_append_grow_zeros (P:=P) w t q G E.e i E.z I L M O R U (some ⟨g,0,none⟩) l.length f (E.cells l) hf m h0 ω ω ω (K m ω) (growslice_fits ω (ab _ hn));have d:=ac f none;exact⟨_,_,F,d.own,⟨d.chg.os,d.chg.tape,d.chg.output,d.chg.size,λk o _=>d.chg.block k o (by simp[Value.ownBlock])⟩,λb A=>(d.fresh b A).elim (λh=>by simp[Value.ownBlock]at h) .inr⟩
end
