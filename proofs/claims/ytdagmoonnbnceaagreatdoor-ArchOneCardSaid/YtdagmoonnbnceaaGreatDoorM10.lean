/- Parts of the proof of ArchOne: N1. -/
import Derived.Test.YtdagmoonnbnceaaGreatDoorM01
import Derived.Test.YtdagmoonnbnceaaGreatDoorM03
import Derived.Lib.SliceRun
set_option linter.unusedVariables false
set_option linter.unusedSectionVars false
set_option linter.unusedSimpArgs false
set_option maxHeartbeats 8000000
set_option maxRecDepth 100000
namespace Go.Proofs.YtdagmoonnbnceaaGreatDoor
open Go.RowKit Go.Fk
def eHB:Elt Tryz.prog Hd:=⟨27,1,24,⟨none,0,0⟩,.slice none 0 0,fun h=>[h.v],by kernel_rfl,by decide,by decide,by simp [Value.cells],fun _=>rfl,by intro x u hu;simp at hu;subst hu;rfl⟩
theorem BGrow_any(n:Nat)(w:World)(hn:n<=2147483648) :
  Calls Tryz.prog 76 #[.slice none 0 0,.int .i64 n] w fun e w'=>∃ v,e=.returned v/\Ow w' w.heap.size eB v []/\Fr w w':=by
 go_enter Tryz.func76, Tryz.ntmps76
 have hn1:¬(n:Int)<0:=by omega
 by_cases h0:n=0
 · subst h0
   go_wp2_with fail
   go_ret
   exact⟨_,rfl,Ow.nil,Fr.refl w⟩
 · have h0':(0:Int)<n:=by omega
   obtain⟨cap,w1,hr,hown,hf,hc,hsl⟩:=run_grow eB w 27 3 27 .i64 .i64 Tryz.underlying27 Tryz.underlying3 n (by omega) hn
   go_wp2_with (at_builtin;refine Lib.wpList_append_run _ rfl (.tmp 20) (.tmp 21) 27 3 rfl _ _ rfl rfl _ _ hr ?_)
   go_ret
   exact⟨_,rfl,hown,hf⟩
def totLB(ls:List (List UInt8)):Nat:=ls.flatten.length
theorem BConcat_any(v:Value)(hs:List Hd)(ls:List (List UInt8))(w:World)(hv:Sees2 w eHB eB v hs ls)(hn:ls.flatten.length<=1000000) :
  Calls Tryz.prog 46 #[v] w fun e w'=>∃ v,e=.returned v/\Ow w' w.heap.size eB v ls.flatten/\Fr w w':=by
 obtain⟨a,cap,hva,hc1,hc2,hnn⟩:=hv.1.shape
 unfold maxLen at hc2
 subst hva
 have hlen:=hv.2.1
 have HL:=hid hlen
 have HN:=hid hnn
 clear hlen hnn
 have hll:ls.length<=9223372036854775807:=by have:=HL.out;omega
 go_enter Tryz.func46, Tryz.ntmps46
 go_wp2_with fail
 go_loop [3,11] (fun nv iv=>∃ k n:Nat,k<=hs.length/\iv=N k/\nv=N n/\Hid (n=(ls.take k).flatten.length)) (fun _ iv=>hs.length - (intOf iv).toNat)
 case atStart=>exact⟨0,0,Nat.zero_le _,rfl,rfl,rfl⟩
 case round=>
  obtain⟨k,n,hk,rfl,rfl,HK⟩:=hrel
  have hnl:n<=1000000:=by have h1:=flat_take_le ls k;have:=HK.out;omega
  by_cases hlt:k<hs.length
  · obtain⟨b,off,cap',hv2,e0⟩:=hv.1.cell1 (fun(h:Hd)=>h.v) rfl k hlt
    have hlt2:k<ls.length:=by have:=HL.out;omega
    have hsee:=hv.2.2 k hlt hlt2
    have HK2:Hid (n+ls[k].length=(ls.take (k+1)).flatten.length):=by show _=_;rw [flat_snoc ls k hlt2,List.length_append,<- HK.out]
    have hl2:=flat_take_le ls (k+1)
    have hl3:n+ls[k].length<=1000000:=by have:=HK2.out;omega
    obtain⟨a2,c2,hh,_⟩:=hsee.shape
    generalize hs[k]=h at *
    obtain⟨ha,hn2,hcc⟩:=h
    simp only [Hd.v,Value.slice.injEq]at hh
    obtain⟨rfl,hnn,rfl⟩:=hh
    rw [<- hnn]at HK2 hl3
    clear hnn hl2
    simp only [Hd.v]at e0
    cases hv2
    have i1:(0:Int)<=k:=by omega
    have i2:(k:Int)<hs.length:=by omega
    have hw1:IntKind.i64.wrap ((n:Int)+hn2)=(n:Int)+hn2:=IntWalk.i64_in _ (by omega)
    have hge:¬(n:Int)+hn2<0:=by omega
    go_wp2_with fail
    go_round
    case rel=>exact⟨k+1,n+hn2,by omega,by go_num,by go_num,HK2⟩
    case measure=>simp [intOf];omega
  · have HK2:Hid (n=ls.flatten.length):=by have:=HK.out;rw [List.take_of_length_le (by have:=HL.out;omega)]at this;exact this
    clear HK
    go_wp2_with fail
    refine(BGrow_any n _ (by omega)).mono ?_
    rintro e w1 ⟨v1,rfl,hown1,hf1⟩
    go_wp2_with fail
    go_loopw [6,27] (fun ov iv wr=>∃ k:Nat,k<=hs.length/\iv=N k/\Ow wr w.heap.size eB ov (ls.take k).flatten/\Fr w wr) (fun _ iv _=>hs.length - (intOf iv).toNat)
    case atStart=>exact⟨0,Nat.zero_le _,rfl,hown1,hf1⟩
    case round=>
     clear hown1
     obtain⟨k,hk2,rfl,hown,hf⟩:=hrel
     by_cases hlt:k<hs.length
     · have hv2:=hv.fr hf
       obtain⟨b,off,cap',hv3,e0⟩:=hv2.1.cell1 (fun(h:Hd)=>h.v) rfl k hlt
       have hlt2:k<ls.length:=by have:=HL.out;omega
       have hsee:=hv2.2.2 k hlt hlt2
       have HF:Hid ((ls.take (k+1)).flatten=(ls.take k).flatten++ls[k]):=flat_snoc ls k hlt2
       have hl2:=flat_take_le ls (k+1)
       rw [HF.out,List.length_append]at hl2
       generalize hs[k]=h at *
       cases hv3
       have i1:(0:Int)<=k:=by omega
       have i2:(k:Int)<hs.length:=by omega
       go_wp2_with (at_builtin;refine wpList_app eB rfl (.tmp 31) (.tmp 32) 27 rfl Tryz.underlying27 w.heap.size rfl hown _ _ rfl hsee ?c1 hf.size ?_)
       case c1=>omega
       intro v' w4 hap
       go_wp2_with fail
       go_roundw
       case rel=>exact⟨k+1,by omega,by go_num,by rw [HF.out];exact hap.own,hap.below hown hf (Nat.le_refl _) hf.size⟩
       case measure=>simp [intOf];omega
     · rw [List.take_of_length_le (by have:=HL.out;omega)]at hown
       go_wp2_with fail
       go_ret
       exact⟨_,rfl,hown,hf⟩
theorem BClone_any(v:Value)(q:List UInt8)(w:World)(hv:See w eB v q)(hn:q.length<=1000000) :
  Calls Tryz.prog 48 #[v] w fun e w'=>∃ v,e=.returned v/\Ow w' w.heap.size eB v q/\Fr w w':=by
 obtain⟨a,cap,rfl,hc1,hc2,hnn⟩:=hv.shape
 cases a with
 | none=>
  obtain⟨rfl,rfl⟩:=hnn rfl
  have heq:=fun W=>Lib.run_eql_slice_nil (P:=Tryz.prog) W 27 5 none 0 0 0 0 Tryz.underlying27
  go_enter Tryz.func48, Tryz.ntmps48
  go_wp2_with fail
  go_ret
  exact⟨_,rfl,Ow.nil,Fr.refl w⟩
 | some a=>
  clear hnn
  have hown0:=own_lit eB w #[] ([]:List UInt8) 0 rfl (by simp) (Nat.le_refl w.heap.size) rfl
  have hv2:=hv.fr ((Fr.refl w).alloc (.cells #[] eB.e))
  have heq:=fun W=>Lib.run_eql_slice_nil (P:=Tryz.prog) W 27 5 (some a) q.length cap 0 0 Tryz.underlying27
  go_enter Tryz.func48, Tryz.ntmps48
  go_wp2_with (at_builtin;refine wpList_app eB rfl (.tmp 5) (.tmp 6) 27 rfl Tryz.underlying27 w.heap.size rfl hown0 _ _ rfl hv2 ?c1 ?c2 ?_)
  case c1=>simp;omega
  case c2=>simp
  intro v' w4 hap
  go_wp2_with fail
  go_ret
  exact⟨_,rfl,hap.own,hap.below hown0 ((Fr.refl w).alloc _) (Nat.le_refl _) (by simp)⟩
end Go.Proofs.YtdagmoonnbnceaaGreatDoor
