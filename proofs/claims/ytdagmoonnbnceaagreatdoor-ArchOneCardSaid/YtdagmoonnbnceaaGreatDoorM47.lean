/- Parts of the proof of ArchOne: FrameR. -/
import Derived.Test.YtdagmoonnbnceaaGreatDoorM46
import Derived.Test.YtdagmoonnbnceaaGreatDoorM01
import Derived.Lib.SmallJoins
import Derived.Deep.Slices
set_option linter.unusedVariables false
set_option linter.unusedSectionVars false
set_option linter.unusedSimpArgs false
set_option maxHeartbeats 8000000
set_option maxRecDepth 100000
namespace Go.Proofs.YtdagmoonnbnceaaGreatDoor
open Go.RowKit Go.Fk Go.ChangeShapes Go.WideShapes Go.Deep
instance:Inhabited Rec:=⟨⟨0,0,[],[]⟩⟩
theorem rec_of{H:Type}{enc:TypeId × Value->H}{w:World}{base:Nat}{spare:Nat->Bool}{held:Bool}{fuel:Nat}{cs:List Value}{x:DataW H × List MemPlace}
  (h:DataW.trod enc Tryz.prog w base spare held fuel 36 cs=some x):∃ r:Rec,cs=r.cells:=by
 obtain⟨y0,y1,y2,y3,n,_,hl,h0,h1,h2,h3⟩:=Go.Joins.trod_struct4 Tryz.underlying36 h
 have c4:Tryz.prog.cellsOf 36=4:=by kernel_rfl
 have k0:Tryz.prog.cellsOf 34=1:=by kernel_rfl
 have k1:Tryz.prog.cellsOf 5=1:=by kernel_rfl
 have k2:Tryz.prog.cellsOf 9=1:=by kernel_rfl
 rw [c4]at hl
 match cs,hl with
 | [v0,v1,v2,v3],_=>
  simp only [k0,k1,k2,List.drop_zero,List.drop_succ_cons,List.take_succ_cons,List.take_zero]at h0 h1 h2 h3
  obtain⟨n0,e0,_,w0⟩:=DataW.trod_int Tryz.underlying34 h0
  obtain⟨n1,e1,_,w1⟩:=DataW.trod_int Tryz.underlying5 h1
  obtain⟨s2,e2,_,_⟩:=DataW.trod_string Tryz.underlying9 h2
  obtain⟨s3,e3,_,_⟩:=DataW.trod_string Tryz.underlying9 h3
  simp only [List.cons.injEq,and_true]at e0 e1 e2 e3
  subst e0 e1 e2 e3
  obtain⟨w00,w01⟩:0<=n0/\n0<=18446744073709551615:=by
   have:=(Bool.and_eq_true _ _).mp w0
   exact⟨of_decide_eq_true this.1,of_decide_eq_true this.2⟩
  obtain⟨w10,w11⟩:0<=n1/\n1<=255:=by
   have:=(Bool.and_eq_true _ _).mp w1
   exact⟨of_decide_eq_true this.1,of_decide_eq_true this.2⟩
  refine⟨⟨UInt64.ofNat n0.toNat,UInt8.ofNat n1.toNat,s2.data.toList,s3.data.toList⟩,?_⟩
  have a0:((UInt64.ofNat n0.toNat).toNat:Int)=n0:=by rw [UInt64.toNat_ofNat'];omega
  have a1:((UInt8.ofNat n1.toNat).toNat:Int)=n1:=by rw [UInt8.toNat_ofNat'];omega
  unfold Rec.cells Fk.u8
  rw [a0,a1,<- S_eta,<- S_eta]
theorem see_records{H:Type}{enc:TypeId × Value->H}{w:World}{base:Nat}{spare:Nat->Bool}{held:Bool}{fuel:Nat}{v:Value}{x:DataW H × List MemPlace}
  (h:DataW.trod enc Tryz.prog w base spare held fuel 24 v.cells.toList=some x) (hv:v.cells.toList=[v]):∃ l,See w eR v l:=by
 rw [hv]at h
 have c4:Tryz.prog.cellsOf 36=4:=by kernel_rfl
 rcases open_slice Tryz.underlying24 h with⟨hcs,_⟩ | ⟨a,len,cap,m,n,D,Pl,hcs,_,hl,hm,hmm,_,hx⟩
 · simp only [List.cons.injEq,and_true]at hcs
   subst hcs
   exact⟨[],See.nil⟩
 · simp only [List.cons.injEq,and_true]at hcs
   subst hcs
   have hlen:len<=m:=by rw [hmm];split <;> omega
   rw [c4]at hx
   obtain ⟨R, hR⟩ := choose_lt (α := Rec) (p := fun i r => ∀ j, j < 4 → w.cell? (a.add (i * 4 + j)) = r.cells[j]?) (fun i hi => by
    obtain ⟨cs', h1, h2⟩ := hx i hi
    obtain ⟨_, _, h3⟩ := World.cells?_some h1
    obtain ⟨r, rfl⟩ := rec_of h2
    exact ⟨r, fun j hj => by rw [← Addr.add_add]; exact h3 j hj⟩)
   refine⟨(List.range len).map R,?_⟩
   have e0:((List.range len).map R).length=len:=by simp
   refine⟨eR.length_cells _,some a,cap,by rw [e0],by omega,hm,by simp,?_⟩
   by_cases h0:len=0
   · exact .inl (by rw [e0,h0])
   · right
     have hc0:=hR 0 (by omega) 0 (by omega)
     obtain⟨b,off,spot⟩:=a
     have hspot:spot=none:=by simpa [Addr.add] using World.cell?_spot hc0
     subst hspot
     refine⟨b,off,rfl,fun j u hj=>?_⟩
     have hj1:j<len*4:=by
      have:=(List.getElem?_eq_some_iff.1 hj).1
      rw [eR.length_cells,e0]at this
      exact this
     have hcj:=hR (j / 4) (by omega) (j % 4) (by omega)
     rw [Addr.add_lit,show j / 4*4+j % 4=j by omega]at hcj
     rw [hcj]
     have:=eR.cells_at ((List.range len).map R) (j / 4) (by rw [e0];omega) (j % 4) (show j % 4<4 by omega)
     rw [show j / 4*eR.k+j % 4=j by show j / 4*4+j % 4=j;omega]at this
     rw [this]at hj
     simp at hj
     exact hj
end Go.Proofs.YtdagmoonnbnceaaGreatDoor
