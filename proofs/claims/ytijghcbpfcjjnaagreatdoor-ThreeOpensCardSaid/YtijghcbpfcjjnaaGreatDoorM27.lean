/- Parts of the proof of ThreeOpens: T5 T6. -/
import Derived.Test.YtijghcbpfcjjnaaGreatDoorM32
import Derived.Test.YtijghcbpfcjjnaaGreatDoorM25
import Derived.Test.YtijghcbpfcjjnaaGreatDoorM21
import Derived.Test.YtijghcbpfcjjnaaGreatDoorM15
import Derived.Test.YtijghcbpfcjjnaaGreatDoorM26
set_option linter.unusedVariables false
set_option linter.unusedSectionVars false
set_option linter.unusedSimpArgs false
set_option maxHeartbeats 8000000
namespace Go.Proofs.YtijghcbpfcjjnaaGreatDoor
open Go.RowKit Go.Fk
def ldStr:Op:=.load 22 (.tmp 80)
attribute [local go_sem] ldStr
attribute [local go_sem] Oper.semAt_some
structure StI (w0:World) (H B base k m c c4:Nat) (ov:Value) (out:List UInt8) (bv0:Value) (bad:List Nat) (n:Nat) (vs:Value) (l:List UInt8) (M:Nat) (pre:List (Fin M)) (W:World) (pv gv bv:Value) (ps:List Hd):Prop where
 h0:W.heap[H]?=some (.cells #[.pointer (some ⟨B,0,none⟩)] 128 (0,0))
 h1:W.heap[H+1]?=some (.cells #[pv] 31 (0,0))
 h2:W.heap[H+1+1]?=some (.cells #[gv] 65 (0,0))
 h3:W.heap[H+1+1+1]?=some (.cells #[vs] 22 (0,0))
 h4:W.heap[H+1+1+1+1]?=some (.cells #[N c4] 3 (0,0))
 R:RdAt W B base k m c ov out bv (bad++badG (pre.map fun j=>okCut (chunkS l c 0 j.val)) n) (n+pre.length)
 oP:Ow W (H+1+1+1+1+1) eHB pv ps
 oR:Owns W (H+1+1+1+1+1) eB ps (pre.map fun j=>cutB (chunkS l c 0 j.val))
 oG:Ow W (H+1+1+1+1+1) eO gv (pre.map fun j=>okCut (chunkS l c 0 j.val))
 ch:Chg (fun q=>q=B\/bv0.ownBlock=some q) w0 W
 fb:∀ b,bv.ownBlock=some b->bv0.ownBlock=some b\/H+1+1+1+1+1<=b
def StJ(w0:World)(H B base k m c c4:Nat)(ov:Value)(out:List UInt8)(bv0:Value)(bad:List Nat)(n:Nat)(vs:Value)(l:List UInt8)(M:Nat)(pre:List (Fin M))(W:World):Prop:=
 ∃ pv gv bv ps,StI w0 H B base k m c c4 ov out bv0 bad n vs l M pre W pv gv bv ps
theorem StI.own(w0:World)(H B base k m c c4:Nat)(ov:Value)(out:List UInt8)(bv0:Value)(bad:List Nat)(n:Nat)(vs:Value)(l:List UInt8)(M D:Nat)(hD:w0.heap.size<=D):OwnFrom D (StJ w0 H B base k m c c4 ov out bv0 bad n vs l M):=by
 rintro s W W' row ⟨pv,gv,bv,ps,h⟩ hg hr
 have hne:∀ {q:Nat} {o:Obj},W.heap[q]?=some o->o.isCells=true->W'.heap[q]?=some o:=fun {q o} hq ho=>by
  rw [hg.block q (Array.getElem?_eq_some_iff.1 hq).1 (fun e => by
   obtain ⟨_, o', ho', hc⟩ := hr q e.symm
   rw [hq] at ho'; cases ho'; rw [ho] at hc; cases hc)]
  exact hq
 have hr2:=fun r e=>(hr r e).2
 exact ⟨pv, gv, bv, ps, hne h.h0 rfl, hne h.h1 rfl, hne h.h2 rfl, hne h.h3 rfl, hne h.h4 rfl, ⟨hne h.R.h rfl, ow_keptG h.R.o hg hr2, ow_keptG h.R.b hg hr2⟩, ow_keptG h.oP hg hr2, ⟨h.oR.1, fun t a b => ow_keptG (h.oR.2 t a b) hg hr2⟩, ow_keptG h.oG hg hr2,
  h.ch.trans (grown_chg hg) (fun i hi e => by have := (hr i e).1; omega), h.fb⟩
abbrev stA(B c c4 len:Nat)(a0:Option Addr)(cap H:Nat)(xv:Value):Act:=
 { tmps:=#[.pointer (some ⟨B,0,none⟩),.slice a0 len cap,.pointer (some ⟨H,0,none⟩),undef,.int .i64 0,.pointer (some ⟨H+1,0,none⟩),.pointer (some ⟨H+1+1,0,none⟩),xv,undef,undef,undef,undef,undef,undef,.slice a0 len cap,.pointer (some ⟨B,0,none⟩),.pointer (some ⟨B,0,none⟩),.pointer (some ⟨B,0,none⟩),.pointer (some ⟨B,2,none⟩),N c,N c4,.func (.func 113) #[] #[.pointer (some ⟨H+1+1+1,0,none⟩),.pointer (some ⟨H+1+1+1+1,0,none⟩)],xv,undef,undef,undef,undef,undef,undef,undef,undef,undef,undef,undef,undef,undef,undef,undef,undef,undef,undef,undef,undef,undef,undef,undef,undef,undef,undef,undef,undef,undef,undef,undef,undef,undef,undef,undef,undef,undef,undef,undef,undef,undef,undef,undef,undef,undef,undef,undef,undef,undef,undef,undef,undef,undef,undef,undef,undef,undef,undef,undef,undef,undef,undef,undef,undef,undef,undef,undef,undef,undef,undef],defers:=[] }
theorem RdAt.put{w:World}{B base k m c n D:Nat}{ov bv:Value}{out:List UInt8}{bad:List Nat}{o o':Obj}(h:RdAt w B base k m c ov out bv bad n)(hK:w.heap[D]?=some o)(ho:o.isCells=false):RdAt (w.putObj D o') B base k m c ov out bv bad n:=by
 have hg:=grownBy_putObj' w D o'
 have hr2:∀ r,some D=some r->∃ o:Obj,w.heap[r]?=some o/\o.isCells=false:=fun r e=>by cases e;exact⟨_,hK,ho⟩
 refine⟨?_,ow_keptG h.o hg hr2,ow_keptG h.b hg hr2⟩
 rw [hg.block B (Array.getElem?_eq_some_iff.1 h.h).1 (fun e=>by cases e;rw [h.h]at hK;cases hK;cases ho)]
 exact h.h
theorem chg_below{G:Nat->Prop}{B:Nat}{w W:World}(h:Chg G w W)(hB:B<=w.heap.size)(hg:∀ i,G i->B<=i):Below B w W:=Chg.below (Below.refl B w) h hB hg
set_option maxRecDepth 100000
theorem stripe_any (B base k m c n : Nat) (ov bv v : Value) (out l : List UInt8) (bad : List Nat) (w : World) (hR : RdAt w B base k m c ov out bv bad n) (hs : ∀ W, Below base w W → See W eB v l) (hL : l.length = (k + m) * (c + 4)) (hl : l.length ≤ 4000) (hk : 1 ≤ k) (hkm : k + m ≤ 255) (hc1 : 1 ≤ c) (hn : n ≤ 50000) (hbl : bad.length ≤ 50000) (hol : out.length ≤ 500000) (hb : base ≤ w.heap.size) (hBb : base ≤ B) (ht : ∀ W, Below base w W → Crc W) :
    Calls Tryz.prog 74 #[.pointer (some ⟨B,0,none⟩),v] w fun e w'=>e=.returned (.int .i64 (stripeR k m c l 0).1)/\((stripeR k m c l 0).1=0->∃ ov' bv',RdAt w' B base k m c ov' (out++(stripeR k m c l 0).2.flatten) bv' (bad++badS l c 0 (k+m) n) (n+(k+m)))/\Chg (fun q=>q=B\/ov.ownBlock=some q\/bv.ownBlock=some q) w w':=by
  obtain⟨a0,cap,hv,hcap1,hcap2,hnone⟩:=(hs w (Below.refl _ _)).shape
  subst hv
  have HS:=hid hs
  have HCrc:=hid ht
  have hcl:c+4<=4000:=by
    have:1*(c+4)<=(k+m)*(c+4):=Nat.mul_le_mul_right _ (by omega)
    omega
  obtain⟨c4,hc4⟩:∃ c4,c4=c+4:=⟨_,rfl⟩
  have hc41:1<=c4:=by omega
  have hc42:c4<=4000:=by omega
  have HCE:=hid (fun(i:Nat)=>show(l.drop (i*c4)).take c4=chunkS l c 0 i from by unfold chunkS;rw [hc4,Nat.zero_add])
  have hw1:IntKind.i64.wrap ((c:Int)+4)=(c4:Int):=by rw [IntWalk.i64_in _ (by omega)];omega
  have HCh:=hid (fun W=>chunkB_any a0 l.length cap c4 (by omega) W)
  have hBw:B<w.heap.size:=(Array.getElem?_eq_some_iff.1 hR.h).1
  have hbvw:∀ q,bv.ownBlock=some q->base<=q/\q<w.heap.size:=hR.b.lt
  have hck:ckN l.length c4=k+m:=by rw [hL,<- hc4];exact ckN_all (k+m) c4 (by omega)
  have e1:∃ A1,A1=w.alloc (.cells #[.pointer (some ⟨B,0,none⟩)] 128):=⟨_,rfl⟩
  have hfA:Fr w (((w.alloc (.cells #[.pointer (some ⟨B,0,none⟩)] 128)).alloc (.cells #[.slice none 0 0] 31)).alloc (.cells #[.slice none 0 0] 65)):=(((Fr.refl w).alloc _).alloc _).alloc _
  have k0:(((w.alloc (.cells #[.pointer (some ⟨B,0,none⟩)] 128)).alloc (.cells #[.slice none 0 0] 31)).alloc (.cells #[.slice none 0 0] 65)).heap[w.heap.size]?=some (.cells #[.pointer (some ⟨B,0,none⟩)] 128 (0,0)):=by
    rw [heap_old _ _ _ (by rw [size_alloc,size_alloc];omega),heap_old _ _ _ (by rw [size_alloc];omega)];exact heap_new _ _ _ rfl
  have k1:(((w.alloc (.cells #[.pointer (some ⟨B,0,none⟩)] 128)).alloc (.cells #[.slice none 0 0] 31)).alloc (.cells #[.slice none 0 0] 65)).heap[w.heap.size+1]?=some (.cells #[.slice none 0 0] 31 (0,0)):=by
    rw [heap_old _ _ _ (by rw [size_alloc,size_alloc];omega)];exact heap_new _ _ _ (size_alloc _ _).symm
  have k2:(((w.alloc (.cells #[.pointer (some ⟨B,0,none⟩)] 128)).alloc (.cells #[.slice none 0 0] 31)).alloc (.cells #[.slice none 0 0] 65)).heap[w.heap.size+1+1]?=some (.cells #[.slice none 0 0] 65 (0,0)):=
    heap_new _ _ _ (by rw [size_alloc,size_alloc])
  have hsz3:(((w.alloc (.cells #[.pointer (some ⟨B,0,none⟩)] 128)).alloc (.cells #[.slice none 0 0] 31)).alloc (.cells #[.slice none 0 0] 65)).heap.size=w.heap.size+1+1+1:=by rw [size_alloc,size_alloc,size_alloc]
  have cB:(((w.alloc (.cells #[.pointer (some ⟨B,0,none⟩)] 128)).alloc (.cells #[.slice none 0 0] 31)).alloc (.cells #[.slice none 0 0] 65)).cell? ⟨w.heap.size,0,none⟩=some (.pointer (some ⟨B,0,none⟩)):=by rw [cell_of_heap k0];rfl
  have c2:(((w.alloc (.cells #[.pointer (some ⟨B,0,none⟩)] 128)).alloc (.cells #[.slice none 0 0] 31)).alloc (.cells #[.slice none 0 0] 65)).cell? ⟨B,2,none⟩=some (N c):=by rw [cell_of_heap (hfA.heap hR.h)];rfl
  refine(callsIn_wide (n:=9)).1 ?_
  refine callsIn_of_wp_marks Tryz.func74 rfl trivial ?_ rfl
  simp only [Tryz.ntmps74,List.size_toArray,List.length_cons,List.length_nil,Nat.reduceAdd,Nat.reduceSub,Array.replicate_succ,Array.replicate_zero,List.push_toArray,List.append_toArray,List.nil_append,List.cons_append]
  have hfA1:Fence.wide.fn 66:=trivial
  have HR:=hid hR
  have HL:=hid hL
  have HC4:=hid hc4
  have HCK:=hid hck
  clear e1 hR hs ht hnone hc4 hL hck
  gi_wp2_with (gi_at_call 66;refine(callsIn_wide.2 (HCh.out _)).mono ?_;rintro e w3 ⟨rfl,rfl⟩)

  clear cB c2
  generalize ((w.alloc (.cells #[.pointer (some ⟨B,0,none⟩)] 128)).alloc (.cells #[.slice none 0 0] 31)).alloc (.cells #[.slice none 0 0] 65)=A3 at *
  have hfA3:Fr A3 (A3.alloc (.cells #[.slice a0 l.length cap] 22)):=(Fr.refl A3).alloc _
  have hsz4:(A3.alloc (.cells #[.slice a0 l.length cap] 22)).heap.size=w.heap.size+1+1+1+1:=by rw [size_alloc,hsz3]
  have g3:=heap_new A3 (.cells #[.slice a0 l.length cap] 22) (w.heap.size+1+1+1) hsz3.symm
  generalize A3.alloc (.cells #[.slice a0 l.length cap] 22)=A4 at *
  have hfA4:Fr A4 (A4.alloc (.cells #[N c4] 3)):=(Fr.refl A4).alloc _
  have hsz5:(A4.alloc (.cells #[N c4] 3)).heap.size=w.heap.size+1+1+1+1+1:=by rw [size_alloc,hsz4]
  have g4:=heap_new A4 (.cells #[N c4] 3) (w.heap.size+1+1+1+1) hsz4.symm
  generalize A4.alloc (.cells #[N c4] 3)=A5 at *
  have hf5:Fr w A5:=hfA.trans (hfA3.trans hfA4)
  have j0:=hfA4.heap (hfA3.heap k0)
  have j1:=hfA4.heap (hfA3.heap k1)
  have j2:=hfA4.heap (hfA3.heap k2)
  have j3:=hfA4.heap g3
  clear k0 k1 k2 g3 hfA hfA3 hfA4 hsz3 hsz4
  obtain⟨H,hH⟩:∃ H,H=w.heap.size:=⟨_,rfl⟩
  have HH:=hid hH
  rw [<- hH]at j0 j1 j2 j3 g4 hsz5 hBw hbvw hb ⊢
  have hsz5':H<A5.heap.size:=by omega
  clear hH
  obtain⟨cb,coff,hcv,hseq⟩:=chunkB_fin (H+1+1+1) (H+1+1+1+1) (.slice a0 l.length cap) l c4 (by omega) (by omega) (by omega) A5 j3 g4 (HS.out _ (Below.mono (show Below w.heap.size w A5 from hf5) (by rw [<- HH.out];exact hb)))
  have HX:=hid (fun W (h:Below base w W) j hj=>chunkB_see1 (show 1<=c4 by omega) (HS.out W h) hcv j hj)
  have h0:StJ w H B base k m c c4 ov out bv bad n (.slice a0 l.length cap) l (ckN l.length c4) [] A5:=
    ⟨_,_,bv,[],j0,j1,j2,j3,g4,by simpa [badG] using HR.out.fr hf5,Ow.nil,⟨rfl,fun t a=>by simp at a⟩,Ow.nil,hf5.chg _,fun b hb=>.inl hb⟩
  clear j0 j1 j2 j3 g4 hcv
  refine wpIn_rangeFunc_ownF rfl (by omega) (gf:=113) (lb:=#[.pointer (some ⟨H+1+1+1,0,none⟩),.pointer (some ⟨H+1+1+1+1,0,none⟩)]) rfl trivial (enters_of Tryz.func113 (by kernel_rfl) rfl) (hseq _ (by omega)) (fun h k=>KeepB.trans h k) (KeepB.put (by omega) (by omega)) (Below.refl _ A5) (fun _=>rfl)
    _ (fun _ _ _=>False) (StI.own w H B base k m c c4 ov out bv bad n (.slice a0 l.length cap) l _ A5.heap.size hf5.size) (fun _ _ _ _ _ hs _ _=>hs) h0 (fun x=>stA B c c4 l.length a0 cap H (ckHd cb coff l.length c4 x.val).v) ?assign ?body ?done ?stop
  case assign=>
    intro l x W K hK
    gi_wp2
    exact hK
  case body=>
    clear h0 hseq
    rintro lr pre x W ⟨pv,gv,bv',ps,hI⟩ hpl
    have hbelow : Below base w W := chg_below hI.ch (by rw [← HH.out]; exact hb) (fun i e => by
      rcases e with e | e
      · omega
      · exact (hbvw i e).1)
    have hsee:=HX.out W hbelow x.val x.isLt
    have hCrc:=HCrc.out W hbelow
    have hxM:x.val<k+m:=by have:=x.isLt;have:=HCK.out;omega
    have hpM:pre.length<k+m:=by have:=HCK.out;omega
    have hce:=HCE.out x.val
    have hrow:=row_le x.val (k+m) c hxM
    have hclen:(chunkS l c 0 x.val).length=c+4:=chunk_len l c 0 x.val (by have:=HL.out;omega)
    rw [hce]at hsee
    have hBH:H+1+1+1+1+1<=W.heap.size:=(Array.getElem?_eq_some_iff.1 hI.h4).1
    have hbl2:(bad++badG (pre.map fun j=>okCut (chunkS l c 0 j.val)) n).length<=100000:=by
      have:=badG_len (pre.map fun j=>okCut (chunkS l c 0 j.val)) n
      rw [List.length_map]at this
      rw [List.length_append];omega
    have HPt:=hid (part_any B base k m c (n+pre.length) ov bv' _ out _ _ W hI.R hsee (by rw [hclen];omega) (by rw [hclen];have:=HC4.out;omega) (by omega) hbl2 (by omega) hCrc)
    have c0:W.cell? ⟨H,0,none⟩=some (.pointer (some ⟨B,0,none⟩)):=by rw [cell_of_heap hI.h0];rfl
    obtain⟨pa,pc,hpe⟩:=hI.oP.shape'
    obtain⟨ga,gc,hge⟩:=hI.oG.shape'
    subst hpe
    rw [List.length_map]at hge
    subst hge
    have HI:=hid hI
    have HSn:=hid (badG_snoc (pre.map fun j=>okCut (chunkS l c 0 j.val)) (okCut (chunkS l c 0 x.val)) n)
    have hoe:(bad++badG (pre.map (fun j=>okCut (chunkS l c 0 j.val))++[okCut (chunkS l c 0 x.val)]) n)=(if okCut (chunkS l c 0 x.val)then bad++badG (pre.map fun j=>okCut (chunkS l c 0 j.val)) n else(bad++badG (pre.map fun j=>okCut (chunkS l c 0 j.val)) n)++[n+pre.length]):=by
      rw [HSn.out,List.length_map]
      cases okCut (chunkS l c 0 x.val)
      · simp
      · simp
    have HOE:=hid hoe
    have hml:(pre.map fun j=>okCut (chunkS l c 0 j.val)).length=pre.length:=List.length_map _
    have hm1:(pre++[x]).map (fun j=>okCut (chunkS l c 0 j.val))=pre.map (fun j=>okCut (chunkS l c 0 j.val))++[okCut (chunkS l c 0 x.val)]:=by rw [List.map_append];rfl
    have hm2:(pre++[x]).map (fun j=>cutB (chunkS l c 0 j.val))=pre.map (fun j=>cutB (chunkS l c 0 j.val))++[cutB (chunkS l c 0 x.val)]:=by rw [List.map_append];rfl
    have HM:=hid (And.intro hm1 hm2)
    have hpsl:ps.length=pre.length:=by have:=hI.oR.1;rw [List.length_map]at this;exact this
    have HPS:=hid hpsl
    clear hpsl
    clear hoe hm1 hm2 hsee hclen hrow hce hI
    have hbl3:=hbl2
    clear hbl2
    generalize (bad++badG (pre.map fun j=>okCut (chunkS l c 0 j.val)) n)=bd at *
    have hfD:Fence.wide.fn 123:=trivial
    generalize okCut (chunkS l c 0 x.val)=ok at *
    generalize cutB (chunkS l c 0 x.val)=cu at *
    gi_wp2_with (first
      | (gi_at_call 123; refine (CallsIn.inRound lr (callsIn_wide.2 HPt.out)).mono ?_; rintro e w5 ⟨u, rfl, hO5, bv2, hR5, hC5, hF5⟩; obtain ⟨ua, uc, hu⟩ := hO5.shape'; subst hu
         have m1 := heap_beside HI.out.h1 (by omega) HI.out.R.b (by decide) hC5
         have d1 : w5.cell? ⟨H + 1, 0, none⟩ = some (.slice pa ps.length pc) := by rw [cell_of_heap m1]; rfl
         have oP5 := ow_beside HI.out.oP HI.out.R.h (by decide) HI.out.R.b (by decide) hC5
         have hsz5 : H + 1 + 1 + 1 + 1 + 1 ≤ w5.heap.size := Nat.le_trans hBH hC5.size)
      | (gi_at_builtin; refine wpListIn_app1 eHB rfl (.tmp 29) (.tmp 31) 31 rfl Tryz.underlying31 (H + 1 + 1 + 1 + 1 + 1) rfl oP5 [⟨ua, cu.length, uc⟩] _ _ _ rfl rfl rfl (by have := HPS.out; simp; omega) hsz5 ?_))
    intro v6 w6 hap6
    obtain⟨va6,vc6,hv6⟩:=hap6.own.shape'
    rw [List.length_append,List.length_singleton]at hv6
    subst hv6
    have m0:=heap_beside HI.out.h0 (by omega) HI.out.R.b (by decide) hC5
    have m2:=heap_beside HI.out.h2 (by omega) HI.out.R.b (by decide) hC5
    have m3:=heap_beside HI.out.h3 (by omega) HI.out.R.b (by decide) hC5
    have m4 := hC5.heap HI.out.h4 (by rintro (e | e); · omega
                                      · rcases HI.out.fb _ e with h | h
                                        · have := (hbvw _ h).2; omega
                                        · omega)
    have oR5:=owns_beside HI.out.oR HI.out.R.h (by decide) HI.out.R.b (by decide) hC5
    have oG5:=ow_beside HI.out.oG HI.out.R.h (by decide) HI.out.R.b (by decide) hC5
    obtain⟨b1,b2,b3,b4⟩:=box_app m1 oP5 (by decide) hap6
    have x1:=heap_beside m0 (by omega) oP5 (by decide) b3
    have x2:=heap_beside m2 (by omega) oP5 (by decide) b3
    have x3 := b3.heap m3 (by rintro (e | e); · omega
                              · have := (oP5.lt _ e).1; omega)
    have x4:=heap_beside m4 (by omega) oP5 (by decide) b3
    have x5:=heap_beside hR5.h (by omega) oP5 (by decide) b3
    have x6:=ow_beside hR5.o m1 (by decide) oP5 (by decide) b3
    have x7:=ow_beside hR5.b m1 (by decide) oP5 (by decide) b3
    have x8:=owns_beside oR5 m1 (by decide) oP5 (by decide) b3
    have x9:=ow_beside oG5 m1 (by decide) oP5 (by decide) b3
    have xu:=ow_beside hO5 m1 (by decide) oP5 (by decide) b3
    have z1:=hap6.chg'.heap m1 (oP5.ne_cells m1 (by decide))
    have z3:w6.cell? ⟨H+1,0,none⟩=some (.slice pa ps.length pc):=by rw [cell_of_heap z1];rfl
    have z2:w6.frozen? ⟨H+1,0,none⟩=false:=frozen_of_heap z1 0
    have hK6 : KeepsOthers W (w6.setCell ⟨H + 1, 0, none⟩ (.slice va6 (ps.length + 1) vc6)) := (keeps_chg hC5 (fun k o ho e => by
      rcases e with e | e
      · have hx := HI.out.R.h; rw [← e, ho] at hx; cases hx; rfl
      · exact ow_cells HI.out.R.b e ho)).trans (keeps_chg b3 (fun k o ho e => by
      rcases e with e | e
      · have hx := m1; rw [← e, ho] at hx; cases hx; rfl
      · exact ow_cells oP5 e ho))
    have hC6:Chg (fun q=>q=B\/bv.ownBlock=some q) w (w6.setCell ⟨H+1,0,none⟩ (.slice va6 (ps.length+1) vc6)):=
      (HI.out.ch.trans hC5 (fun i hi e => by
        rcases e with e | e
        · exact .inl e
        · rcases HI.out.fb _ e with h | h
          · exact .inr h
          · have := HH.out; omega)).trans b3 (fun i hi e => by
        have := HH.out
        rcases e with e | e
        · omega
        · have := (oP5.lt _ e).1; omega)
    have HK6:=hid hK6
    have HC6:=hid hC6
    have hcx2:(w6.setCell ⟨H+1,0,none⟩ (.slice va6 (ps.length+1) vc6)).cell? ⟨H+1+1,0,none⟩=some (.slice ga pre.length gc):=by rw [cell_of_heap x2];rfl
    have hsz6:H+1+1+1+1+1<=(w6.setCell ⟨H+1,0,none⟩ (.slice va6 (ps.length+1) vc6)).heap.size:=Nat.le_trans hsz5 b3.size
    have hpl2:pre.length<=255:=by omega
    have HSZ:Hid ((w6.setCell ⟨H+1,0,none⟩ (.slice va6 (ps.length+1) vc6)).heap.size=w6.heap.size):=by show _=_;simp [World.setCell]
    clear hK6 hC6 hap6 m0 m1 m2 m3 m4 oP5 oR5 oG5 b3 hC5 HPt hO5
    have HX0:=hid (And.intro b1 (And.intro b2 (And.intro b4 (And.intro x1 (And.intro x3 (And.intro x4 (And.intro x5 (And.intro x6 (And.intro x7 (And.intro x8 xu))))))))))
    have HX2:=hid (And.intro x2 x9)
    clear b1 b2 b4 x1 x2 x3 x4 x5 x6 x7 x8 x9 xu
    gi_wp2_with (gi_at_builtin;refine wpListIn_app1 eO rfl (.tmp 33) (.tmp 35) 65 rfl Tryz.underlying65 (H+1+1+1+1+1) rfl HX2.out.2 [ok] _ _ 1 rfl rfl (by rw [HSZ.out];rfl) (by simp;omega) hsz6 ?_)
    intro v8 w8 hap8
    obtain⟨va8,vc8,hv8⟩:=hap8.own.shape'
    rw [List.length_append,List.length_singleton,List.length_map]at hv8
    subst hv8
    have z4:=hap8.chg'.heap HX2.out.1 (HX2.out.2.ne_cells HX2.out.1 (by decide))
    have z5:w8.cell? ⟨H+1+1,0,none⟩=some (.slice ga pre.length gc):=by rw [cell_of_heap z4];rfl
    have z6:w8.frozen? ⟨H+1+1,0,none⟩=false:=frozen_of_heap z4 0
    obtain⟨b1,b2,b4,x1,x3,x4,x5,x6,x7,x8,xu⟩:=HX0.out
    obtain⟨x2,x9⟩:=HX2.out
    obtain⟨g1,g2,g3,g4⟩:=box_app x2 x9 (by decide) hap8
    have y0:=heap_beside x1 (by omega) x9 (by decide) g3
    have y1:=heap_beside b1 (by omega) x9 (by decide) g3
    have y3:=heap_beside x3 (by omega) x9 (by decide) g3
    have y4:=heap_beside x4 (by omega) x9 (by decide) g3
    have y5:=heap_beside x5 (by omega) x9 (by decide) g3
    have y6:=ow_beside x6 x2 (by decide) x9 (by decide) g3
    have y7:=ow_beside x7 x2 (by decide) x9 (by decide) g3
    have yP:=ow_beside b2 x2 (by decide) x9 (by decide) g3
    have yR:=owns_beside x8 x2 (by decide) x9 (by decide) g3
    have yu:=ow_beside xu x2 (by decide) x9 (by decide) g3
    have hKo := HK6.out.trans (keeps_chg g3 (fun k o ho e => by
      rcases e with e | e
      · have hx := x2; rw [← e, ho] at hx; cases hx; rfl
      · exact ow_cells x9 e ho))
    have hC9 : Chg (fun q => q = B ∨ bv.ownBlock = some q) w (w8.setCell ⟨H + 1 + 1, 0, none⟩ (.slice va8 (pre.length + 1) vc8)) := HC6.out.trans g3 (fun i hi e => by
        have := HH.out
        rcases e with e | e
        · omega
        · have := (x9.lt _ e).1; omega)
    have HG:=hid (And.intro g1 (And.intro g2 (And.intro y0 (And.intro y1 (And.intro y3 (And.intro y4 (And.intro y5 (And.intro y6 (And.intro y7 (And.intro yP (And.intro yR yu)))))))))))
    have HKC:=hid (And.intro hKo hC9)
    clear g1 g2 g3 g4 y0 y1 y3 y4 y5 y6 y7 yP yR yu hKo hC9 b1 b2 b4 x1 x2 x3 x4 x5 x6 x7 x8 x9 xu hap8
    gi_wp2
    obtain⟨g1,g2,y0,y1,y3,y4,y5,y6,y7,yP,yR,yu⟩:=HG.out
    refine⟨HKC.out.1,⟨y3.trans HI.out.h3.symm,y4.trans HI.out.h4.symm⟩,_,_,bv2,ps++[⟨ua,cu.length,uc⟩],y0,y1,g1,y3,y4,?_,yP,?_,?_,HKC.out.2,?_⟩
    · rw [HM.out.1,HOE.out,List.length_append,List.length_singleton,<- Nat.add_assoc]
      exact⟨y5,y6,y7⟩
    · rw [HM.out.2]
      exact yR.snoc (yu.rebase hBH)
    · rw [HM.out.1];exact g2
    · intro b hb
      rcases hF5 b hb with h | h
      · exact HI.out.fb b h
      · exact .inr (Nat.le_trans hBH h)
  case done=>
    clear h0 hseq HX
    rintro D ys W hD rfl ⟨pv,gv,bv',ps,hI⟩ hK
    have e1:(List.finRange (ckN l.length c4)).map (fun j:Fin (ckN l.length c4)=>okCut (chunkS l c 0 j.val))=goodS l c 0 (k+m):=fin_map (ckN l.length c4) (k+m) HCK.out (fun i=>okCut (chunkS l c 0 i))
    have e2:(List.finRange (ckN l.length c4)).map (fun j:Fin (ckN l.length c4)=>cutB (chunkS l c 0 j.val))=partS l c 0 (k+m):=fin_map (ckN l.length c4) (k+m) HCK.out (fun i=>cutB (chunkS l c 0 i))
    have e3:(List.finRange (ckN l.length c4)).length=k+m:=by rw [List.length_finRange];exact HCK.out
    obtain⟨h0,h1,h2,_,_,hR,oP,oR,oG,ch,fb⟩:=hI
    rw [e1,e3]at hR
    rw [e2]at oR
    rw [e1]at oG
    clear e1 e2 e3
    have hS2:=oR.sees2 oP.see
    have hpsl:ps.length=k+m:=by rw [hS2.2.1,partS_len]
    have hgl:(goodS l c 0 (k+m)).length=k+m:=goodS_len _ _ _ _
    have hpc:=part_len l c 0 (k+m) (by have:=HL.out;omega)
    have HNo:=hid (fun W' (hf:Fr W W') h=>Mend_no k m c pv gv ps (partS l c 0 (k+m)) (goodS l c 0 (k+m)) W' hk hkm ((oR.fr hf).sees2 (oP.fr hf).see) (oG.fr hf).see hpsl hgl hpc h)
    have HOk:=hid (fun W' (hf:Fr W W') h=>Mend_ok k m c pv gv ps (partS l c 0 (k+m)) (goodS l c 0 (k+m)) W' hk hkm (by omega) ((oR.fr hf).sees2 (oP.fr hf).see) (oG.fr hf).see hpsl hgl hpc h)
    have HDam:=hid (stripeR_dam k m c l 0)
    have HSok:=hid (stripeR_ok k m c l 0)
    have HSbad:=hid (stripeR_bad k m c l 0)
    have HBad:=hid (badS_eq l c 0 (k+m) n)
    have hnl:=nowL_len k m c ((goodsL (goodS l c 0 (k+m))).take k) (atL ((goodsL (goodS l c 0 (k+m))).take k) (partS l c 0 (k+m)))
    have hPSl:(partS l c 0 (k+m)).length=k+m:=partS_len _ _ _ _
    have HNC:=hid (fun(hno:¬(goodsL (goodS l c 0 (k+m))).length<k)=>nowL_all k m c ((goodsL (goodS l c 0 (k+m))).take k) (atL ((goodsL (goodS l c 0 (k+m))).take k) (partS l c 0 (k+m))) (by rw [atL_len,List.length_take];omega) (atL_all (goodS l c 0 (k+m)) (partS l c 0 (k+m)) c _ (fun r hr=>List.mem_of_mem_take hr) hpc (by rw [hgl,hPSl])))
    have HPS:=hid (And.intro hpsl (And.intro hgl (And.intro hnl hPSl)))
    clear hpsl hgl hpc hS2 hnl hPSl
    generalize nowL k m c ((goodsL (goodS l c 0 (k+m))).take k) (atL ((goodsL (goodS l c 0 (k+m))).take k) (partS l c 0 (k+m)))=NW at *
    generalize goodS l c 0 (k+m)=G at *
    generalize partS l c 0 (k+m)=PS at *
    obtain⟨M,hMe⟩:∃ M,M=k+m:=⟨_,rfl⟩
    have HMe:=hid hMe
    obtain⟨pa,pc,hpv⟩:=oP.shape'
    obtain⟨ga,gc,hgv⟩:=oG.shape'
    rw [HPS.out.1,<- hMe]at hpv
    rw [HPS.out.2.1,<- hMe]at hgv
    subst hpv hgv
    clear hMe
    have hM255:M<=255:=by have:=HMe.out;omega
    have hkM:k<=M:=by have:=HMe.out;omega
    have hend:∀ w9:World,Chg (fun q=>q=B\/ov.ownBlock=some q\/bv.ownBlock=some q) w w9->Chg (fun q=>q=B\/ov.ownBlock=some q\/bv.ownBlock=some q) w (w9.putObj D (.deferred none)):=fun w9 h=>h.trans (grown_chg (grownBy_putObj' w9 D _)) (fun i hi e=>by cases e;have:=hf5.size;omega)
    have hchW:Chg (fun q=>q=B\/ov.ownBlock=some q\/bv.ownBlock=some q) w W:=ch.mono (fun i _ e=>e.elim .inl (fun h=>.inr (.inr h)))
    have c0:W.cell? ⟨H,0,none⟩=some (.pointer (some ⟨B,0,none⟩)):=by rw [cell_of_heap h0];rfl
    have c1:W.cell? ⟨H+1,0,none⟩=some (.slice pa M pc):=by rw [cell_of_heap h1];rfl
    have c2:W.cell? ⟨H+1+1,0,none⟩=some (.slice ga M gc):=by rw [cell_of_heap h2];rfl
    have d0:W.cell? ⟨B,0,none⟩=some (N k):=by rw [cell_of_heap hR.h];rfl
    have d1:W.cell? ⟨B,1,none⟩=some (N m):=by rw [cell_of_heap hR.h];rfl
    gi_step
    gi_step
    refine wpIn_wide.2 ?_
    by_cases hno:(goodsL G).length<k
    · have HN1:=hid (HNo.out W.drew (Fr.refl W).drew hno)
      go_upto_region 8 with fail
      go_region_held3 (fun w' => w'.cell? ⟨H, 0, none⟩ = some (.pointer (some ⟨B, 0, none⟩)) ∧ w'.cell? ⟨H + 1, 0, none⟩ = some (.slice pa M pc) ∧ w'.cell? ⟨H + 1 + 1, 0, none⟩ = some (.slice ga M gc) ∧ w'.cell? ⟨B, 0, none⟩ = some (N k) ∧ w'.cell? ⟨B, 1, none⟩ = some (N m))
        (first | go_keep)
        ((go_at_call 124;refine HN1.out.mono ?_;rintro e w1 ⟨rfl,hf1⟩;have uu0:=hf1.cell c0;have uu1:=hf1.cell c1;have uu2:=hf1.cell c2;have uu3:=hf1.cell d0;have uu4:=hf1.cell d1))
      go_wp2_with fail
      have hfW:=(Fr.refl W).drew.trans hf1
      have hC1:=hchW.trans (hfW.chg (fun _=>False)) (fun i _ e=>e.elim)
      have hKd:=hfW.heap hK
      refine⟨by simp,.inl ⟨_,_,rfl,run_takeDeferred hKd,?_⟩⟩
      refine⟨_,results_tmp rfl _ _ _,?_,?_,hend _ hC1⟩
      · rw [HDam.out hno];rfl
      · rw [HDam.out hno];intro h;cases h
    · have hyes:k<=(goodsL G).length:=by omega
      have HN1:=hid (HOk.out W.drew (Fr.refl W).drew hyes)
      go_upto_region 8 with fail
      go_region_held3 (fun w' => w'.cell? ⟨H, 0, none⟩ = some (.pointer (some ⟨B, 0, none⟩)) ∧ w'.cell? ⟨H + 1, 0, none⟩ = some (.slice pa M pc) ∧ w'.cell? ⟨H + 1 + 1, 0, none⟩ = some (.slice ga M gc) ∧ w'.cell? ⟨B, 0, none⟩ = some (N k) ∧ w'.cell? ⟨B, 1, none⟩ = some (N m))
        (first | go_keep)
        ((go_at_call 124;refine HN1.out.mono ?_;rintro e w1 ⟨v1,rfl,xs,hO1,hOs1,hf1⟩;obtain⟨na,nc,hnv⟩:=hO1.shape';subst hnv;have uu0:=hf1.cell c0;have uu1:=hf1.cell c1;have uu2:=hf1.cell c2;have uu3:=hf1.cell d0;have uu4:=hf1.cell d1))
      have hxl:xs.length=M:=by rw [hOs1.1,HPS.out.2.2.1];exact HMe.out.symm
      rw [hxl]
      have hGl:G.length=M:=by rw [HPS.out.2.1];exact HMe.out.symm
      have hpl:ps.length=M:=by rw [HPS.out.1];exact HMe.out.symm
      have hNl:NW.length=M:=by rw [HPS.out.2.2.1];exact HMe.out.symm
      have hPl:PS.length=M:=by rw [HPS.out.2.2.2];exact HMe.out.symm
      have HLn:=hid (And.intro hxl (And.intro hGl (And.intro hpl (And.intro hNl hPl))))
      have hfW:=(Fr.refl W).drew.trans hf1
      have sN:=hO1.see
      rw [hxl]at sN
      have sG:=(oG.fr hfW).see
      have sP:=(oP.fr hfW).see
      have rP:=oR.fr hfW
      have hR1:=hR.fr hfW
      have hK1:=hfW.heap hK
      have h01:=hfW.heap h0
      have hovw:∀ q,ov.ownBlock=some q->base<=q/\q<H:=fun q e=>by have h:=HR.out.o.lt q e;have:=HH.out;exact⟨h.1,by omega⟩
      have hC1:=hchW.trans (hfW.chg (fun _=>False)) (fun i _ e=>e.elim)
      clear hxl hGl hpl hNl hPl hO1 hf1 HN1 HOk HNo c0 c1 c2 d0 d1 h0 h1 h2 hR oP oR oG ch hK HPS hchW hfW
      go_wp2_with fail
      go_loopw [58] (fun iv wr=>∃ i:Nat,i<=M/\iv=N i/\(∀ j,j<i->G.getD j false=true->NW.getD j []=PS.getD j [])/\Fr w1 wr) (fun iv _=>M - (intOf iv).toNat)
      case atStart=>exact⟨0,Nat.zero_le _,rfl,fun j h=>absurd h (Nat.not_lt_zero j),Fr.refl _⟩
      case round=>
        obtain⟨i,hi,rfl,hsame,hf⟩:=hrel
        have t1:=hf.cell uu1
        have t2:=hf.cell uu2
        by_cases hlt:i<M
        · obtain⟨nb,noff,ncap,hnv,e1⟩:=(sN.fr hf).cell1 Hd.v rfl i (by rw [HLn.out.1];exact hlt)
          obtain⟨gb,goff,gcap,hgv,e2⟩:=(sG.fr hf).cell1 (fun b=>.bool b) rfl i (by rw [HLn.out.2.1];exact hlt)
          obtain⟨pb,poff,pcap,hpv,e3⟩:=(sP.fr hf).cell1 Hd.v rfl i (by rw [HLn.out.2.2.1];exact hlt)
          simp only [Value.slice.injEq]at hnv hgv hpv
          obtain⟨rfl,hz1,rfl⟩:=hnv
          obtain⟨rfl,hz2,rfl⟩:=hgv
          obtain⟨rfl,hz3,rfl⟩:=hpv
          clear hz1 hz2 hz3
          have hiX:i<xs.length:=by rw [HLn.out.1];exact hlt
          have hiG:i<G.length:=by rw [HLn.out.2.1];exact hlt
          have hiP:i<ps.length:=by rw [HLn.out.2.2.1];exact hlt
          have hiN:i<NW.length:=by rw [HLn.out.2.2.2.1];exact hlt
          have hiS:i<PS.length:=by rw [HLn.out.2.2.2.2];exact hlt
          have HE:=hid (BEqual_any xs[i].v ps[i].v (NW[i]'hiN) (PS[i]'hiS) wr ((hOs1.2 i hiX hiN).see.fr hf) ((rP.2 i hiP hiS).see.fr hf))
          have HgG:=hid (getD_at G i false hiG)
          have HgN:=hid (getD_at NW i [] hiN)
          have HgS:=hid (getD_at PS i [] hiS)
          have HiG:=hid hiG
          have i1:(i:Int)<M:=by omega
          have i2:(0:Int)<=i:=by omega
          obtain⟨xh,hxh⟩:∃ x,x=xs[i]:=⟨_,rfl⟩
          obtain⟨ph,hph⟩:∃ x,x=ps[i]:=⟨_,rfl⟩
          obtain⟨gg,hgg⟩:∃ x:Bool,x=G[i]'hiG:=⟨_,rfl⟩
          obtain⟨nx,hnx⟩:∃ x,x=NW[i]:=⟨_,rfl⟩
          obtain⟨sx,hsx⟩:∃ x,x=PS[i]:=⟨_,rfl⟩
          rw [<- hxh]at e1 HE
          rw [<- hph]at e3 HE
          have e2':wr.cell? ⟨gb,goff+i,none⟩=some (.bool (G[i]'hiG)):=e2
          clear e2
          rw [<- hgg]at e2' HgG
          rw [<- hnx]at HE HgN
          rw [<- hsx]at HE HgS
          clear hxh hph hgg hnx hsx hiX hiG hiP hiN hiS sN sG sP hOs1 rP
          obtain⟨xa,xn,xc⟩:=xh
          obtain⟨qa,qn,qc⟩:=ph
          simp only [Hd.v]at e1 e3 HE
          cases gg
          · go_wp2_with fail
            go_roundw
            case rel => exact ⟨i + 1, by omega, by go_num, (fun j hj hg => by
              rcases Nat.lt_or_ge j i with h | h
              · exact hsame j h hg
              · obtain rfl : j = i := by omega
                rw [HgG.out] at hg; cases hg), hf⟩
            case measure=>simp [intOf];omega
          · by_cases heq:nx=sx
            · rw [decide_eq_true heq]at HE
              go_wp2_with fail
              refine HE.out.mono ?_
              rintro e w5 ⟨rfl,hf5⟩
              have hf15:=hf.trans hf5
              go_wp2_with fail
              go_roundw
              case rel=>
                exact ⟨i + 1, by omega, by go_num, (fun j hj hg => by
                  rcases Nat.lt_or_ge j i with h | h
                  · exact hsame j h hg
                  · obtain rfl : j = i := by omega
                    rw [HgN.out, HgS.out, heq]), hf15⟩
              case measure=>simp [intOf];omega
            · rw [decide_eq_false heq]at HE
              have hbad:=HSbad.out hno (sameS_no NW PS G i HiG.out HgG.out (by rw [HgN.out,HgS.out];exact heq))
              have Hbad:=hid hbad
              clear hbad
              go_wp2_with fail
              refine HE.out.mono ?_
              rintro e w5 ⟨rfl,hf5⟩
              have hf15:=hf.trans hf5
              go_wp2_with fail
              have hC5:=hC1.trans (hf15.chg (fun _=>False)) (fun i _ e=>e.elim)
              refine⟨by simp,.inl ⟨_,_,rfl,run_takeDeferred (hf15.heap hK1),?_⟩⟩
              refine⟨_,results_tmp rfl _ _ _,?_,?_,hend _ hC5⟩
              · rw [Hbad.out];rfl
              · rw [Hbad.out];intro h;cases h
        · obtain rfl:i=M:=by omega
          have hnl:¬((i:Int)<i):=by omega
          have HOK:=hid (HSok.out hno (sameS_yes NW PS G (fun j hj hg=>hsame j (by have:=HLn.out.2.1;omega) hg)))
          have hfl:=flat_all c (NW.take k) (fun p hp=>HNC.out hno p (List.mem_of_mem_take hp))
          have hnk:(NW.take k).length=k:=by rw [List.length_take,HLn.out.2.2.2.1];omega
          rw [hnk]at hfl
          have hkc:k*c<=(k+m)*(c+4):=Nat.mul_le_mul (by omega) (by omega)
          have hfl2:(NW.take k).flatten.length<=4000:=by have:=HL.out;omega
          obtain⟨hto,hks⟩:=run_to eHB 31 Tryz.underlying31 (show See wr eHB (.slice na i nc) xs from sN.fr hf) k (by rw [HLn.out.1];exact hkM)
          have hS2 : Sees2 wr eHB eB (.slice na k nc) (xs.take k) (NW.take k) := ⟨hks, by rw [List.length_take, List.length_take, HLn.out.1, HLn.out.2.2.2.1], fun t ha hb => by
            simp only [List.getElem_take]
            exact (hOs1.2 t (by rw [List.length_take] at ha; omega) (by rw [List.length_take] at hb; omega)).see.fr hf⟩
          have HCc:=hid (fun W' (h:Fr wr W')=>BConcat_any (.slice na k nc) (xs.take k) (NW.take k) W' ⟨hS2.1.fr h,hS2.2.1,fun t ha hb=>(hS2.2.2 t ha hb).fr h⟩ (by omega))
          clear hfl hkc hnk hks hS2 sN sG sP hOs1 rP HNC hsame HSok HSbad
          obtain⟨FL,hFL⟩:∃ FL,FL=(NW.take k).flatten:=⟨_,rfl⟩
          rw [<- hFL]at HCc hfl2
          have HFL:=hid hFL
          clear hFL
          have hRr:=hR1.fr hf
          obtain⟨oa,oc,hov⟩:=hRr.o.shape'
          subst hov
          have b0:=hf.cell uu0
          have b3:=hf.cell uu3
          have b4:wr.cell? ⟨B,3,none⟩=some (.slice oa out.length oc):=by rw [cell_of_heap hRr.h];rfl
          have HRr:=hid hRr
          have hbw:base<=wr.heap.size:=by have:=hf.size;have:=hC1.size;have:=HH.out;omega
          have HLo:Hid (out.length+FL.length<=2147483648):=by show _<=_;omega
          clear uu0 uu1 uu2 uu3 uu4 t1 t2 hRr hR1
          go_upto_region 17 with fail
          have h0r:=hf.heap h01
          have hoo:∀ q,(Value.slice oa out.length oc).ownBlock=some q->q<H:=fun q e=>(hovw q e).2
          rw [show Op.load 22 (.tmp 80)=ldStr from rfl]
          go_region_held3 (fun W => W.cell? ⟨H, 0, none⟩ = some (.pointer (some ⟨B, 0, none⟩)) ∧ W.cell? ⟨B, 0, none⟩ = some (N k))
            (first | exact hk5 | exact hk6 | exact hk7 _ | go_keep)
            (((first
              | (go_at_call 110; refine (HCc.out _ (Fr.refl wr).drew).mono ?_; rintro e w5 ⟨v5, rfl, hO5, hf5⟩
                 have hk5 := And.intro (hf5.cell b0) (hf5.cell b3)
                 have b5 := hf5.cell b4
                 obtain ⟨fa, fc, hfv⟩ := hO5.shape'
                 subst hfv)
              | (refine step_app eB rfl (.tmp 81) (.tmp 89) 22 rfl Tryz.underlying22 base rfl (HRr.out.o.fr ((Fr.refl wr).drew.trans hf5)) _ FL rfl hO5.see HLo.out (Nat.le_trans hbw hf5.size) ?_
                 intro v' w6 hap
                 have m0 := hap.chg'.heap (hf5.heap (show wr.drew.heap[H]? = _ from h0r)) (fun e => by have := hoo H e; omega)
                 have mB := hap.chg'.heap (hf5.heap (show wr.drew.heap[B]? = _ from HRr.out.h)) (HRr.out.o.ne_cells HRr.out.h (by decide))
                 obtain ⟨va6, vc6, hv6⟩ := hap.own.shape'
                 rw [List.length_append] at hv6
                 subst hv6
                 have hk6 : w6.cell? ⟨H, 0, none⟩ = some (.pointer (some ⟨B, 0, none⟩)) ∧ w6.cell? ⟨B, 0, none⟩ = some (N k) := ⟨by rw [cell_of_heap m0]; rfl, by rw [cell_of_heap mB]; rfl⟩
                 have e6 : w6.cell? ⟨B, 3, none⟩ = some (.slice oa out.length oc) := by rw [cell_of_heap mB]; rfl
                 have f6 : w6.frozen? ⟨B, 3, none⟩ = false := frozen_of_heap mB 3
                 have hk7 : ∀ u, (w6.setCell ⟨B, 3, none⟩ u).cell? ⟨H, 0, none⟩ = some (.pointer (some ⟨B, 0, none⟩)) ∧ (w6.setCell ⟨B, 3, none⟩ u).cell? ⟨B, 0, none⟩ = some (N k) := fun u => ⟨by rw [cell_of_heap ((setCell_chg w6 ⟨B, 3, none⟩ u).heap m0 (fun e => by have e : H = B := e; omega))]; rfl, by rw [cell_of_heap (heap_setCell_own mB 3 u)]; rfl⟩))))
          all_goals go_wp2_with fail
          all_goals
            have hst:=setCell_chg w6 ⟨B,3,none⟩ (.slice va6 (out.length+FL.length) vc6)
            have mB9:=heap_setCell_own mB 3 (.slice va6 (out.length+FL.length) vc6)
            have hfw5:Fr wr w5:=(Fr.refl wr).drew.trans hf5
            have o5:=HRr.out.o.fr hfw5
            have bJ5:=HRr.out.b.fr hfw5
            have bJ6:=own_app bJ5 o5 hap (by decide)
            have hnB:∀ q,(Value.slice va6 (out.length+FL.length) vc6).ownBlock=some q->¬q=B:=fun q e h=>hap.own.ne_cells mB (by decide) (by rw [e,h])
            have hnJ:∀ q,bv'.ownBlock=some q->¬q=B:=fun q e h=>bJ6.ne_cells mB (by decide) (by rw [e,h])
            have hRf:RdAt (w6.setCell ⟨B,3,none⟩ (.slice va6 (out.length+FL.length) vc6)) B base k m c (.slice va6 (out.length+FL.length) vc6) (out++FL) bv' (bad++badG G n) (n+(k+m)):=
              ⟨mB9,hap.own.chg hst hnB,bJ6.chg hst hnJ⟩
            have hK9:(w6.setCell ⟨B,3,none⟩ (.slice va6 (out.length+FL.length) vc6)).heap[D]?=some (.deferred (some [])):=hst.heap (hap.chg'.heap (hfw5.heap (hf.heap hK1)) (fun e=>by have:=hoo D e;have:=hf5.size;omega)) (fun e=>by have e:D=B:=e;omega)
            have hC9:=((((hC1.trans (hf.chg (fun _=>False)) (fun i _ e=>e.elim)).trans (hfw5.chg (fun _=>False)) (fun i _ e=>e.elim)).trans hap.chg' (fun i _ e=>Or.inr (Or.inl e))).trans hst (fun i _ e=>Or.inl e))
            refine⟨by simp,.inl ⟨_,_,rfl,run_takeDeferred hK9,?_⟩⟩
            refine⟨_,results_tmp rfl _ _ _,?_,?_,hend _ hC9⟩
            · rw [HOK.out];rfl
            · intro _
              refine⟨.slice va6 (out.length+FL.length) vc6,bv',?_⟩
              rw [HOK.out,HBad.out]
              show RdAt _ B base k m c _ (out++(NW.take k).flatten) bv' _ _
              rw [<- HFL.out]
              exact hRf.put hK9 rfl
  case stop=>
    rintro D c pre W hD _ h _
    exact h.elim
set_option maxRecDepth 512
def slLen:Value->Nat | .slice _ n _=>n | _=>0
set_option maxRecDepth 100000
theorem Read_any(k m c n:Nat)(v:Value)(l:List UInt8)(w:World)(hs:See w eB v l)(hk:1<=k)(hkm:k+m<=255)(hc1:1<=c)(hc6:c<=4096)(hn:n<=4294967296)(hl:l.length<=4000)(ht:Crc w) :
  Calls Tryz.prog 29 #[N k,N m,N c,N n,v] w fun e w'=>∃ u bv,e=.returned (.tuple #[u,bv,.int .i64 ((readS k m c n l).1:Int)])/\Ow w' w.heap.size eB u (readS k m c n l).2.1/\Ow w' w.heap.size eJ bv (readS k m c n l).2.2/\Fr w w':=by
 have HSz:=hid (Size_any k m c n hk hkm hc1 hc6)
 obtain⟨q1,q2⟩:=sizeV_cases k m c n
 obtain⟨a0,cap,hv,hcap1,hcap2,_⟩:=hs.shape
 subst hv
 unfold maxLen at hcap2
 by_cases hbig:8388608<n
 · rw [q2 (by omega)]at HSz
   have HR:=hid (readS_big k m c n l hbig)
   clear hs ht q1 q2
   go_enter Tryz.func29, Tryz.ntmps29
   go_wp2_with fail
   refine(HSz.out _).mono ?_
   rintro e w1 ⟨rfl,hf1⟩
   go_wp2_with fail
   go_ret3
   rw [HR.out]
   exact⟨_,_,rfl,Ow.nil,Ow.nil,hf1⟩
 · obtain⟨q3,q4⟩:=q1 (by omega)
   by_cases hlim:16777216<strN k c n*((k+m)*(c+4))
   · rw [q4 (by omega)]at HSz
     have HR:=hid (readS_limit k m c n l hbig hlim)
     clear hs ht q3 q4 q2 q1 hlim
     go_enter Tryz.func29, Tryz.ntmps29
     go_wp2_with fail
     refine(HSz.out _).mono ?_
     rintro e w1 ⟨rfl,hf1⟩
     go_wp2_with fail
     go_ret3
     rw [HR.out]
     exact⟨_,_,rfl,Ow.nil,Ow.nil,hf1⟩
   · rw [q3 (by omega)]at HSz
     by_cases hsh:l.length<strN k c n*((k+m)*(c+4))
     · have HR:=hid (readS_short k m c n l hbig hlim hsh)
       clear hs ht q3 q4 q2 q1
       generalize strN k c n*((k+m)*(c+4))=size at *
       have j1:(l.length:Int)<size:=by omega
       go_enter Tryz.func29, Tryz.ntmps29
       go_wp2_with fail
       refine(HSz.out _).mono ?_
       rintro e w1 ⟨rfl,hf1⟩
       go_wp2_with fail
       go_ret3
       rw [HR.out]
       exact⟨_,_,rfl,Ow.nil,Ow.nil,hf1⟩
     · by_cases hlo:strN k c n*((k+m)*(c+4))<l.length
       · have HR:=hid (readS_long k m c n l hbig hlim hlo)
         clear hs ht q3 q4 q2 q1
         generalize strN k c n*((k+m)*(c+4))=size at *
         have j1:¬(l.length:Int)<size:=by omega
         have j2:(size:Int)<l.length:=by omega
         go_enter Tryz.func29, Tryz.ntmps29
         go_wp2_with fail
         refine(HSz.out _).mono ?_
         rintro e w1 ⟨rfl,hf1⟩
         go_wp2_with fail
         go_ret3
         rw [HR.out]
         exact⟨_,_,rfl,Ow.nil,Ow.nil,hf1⟩
       · have heq:l.length=strN k c n*((k+m)*(c+4)):=by omega
         have HR:=hid (readS_eq k m c n l hbig hlim heq)
         have hL0:1*5<=(k+m)*(c+4):=Nat.mul_le_mul (by omega) (by omega)
         have hkc0:1*1<=k*c:=Nat.mul_le_mul hk hc1
         have hnk:n<=strN k c n*(k*c):=by
          have:=fun h=>(strN_lt k c n (by omega) (strN k c n)).2 h
          omega
         have HLd:=hid (slaid_any k m c hkm hc6)
         have HCut:=hid (fun s=>stripeR_cut k m c l (s*((k+m)*(c+4))))
         have HBCut:=hid (fun s b=>badS_cut l c (s*((k+m)*(c+4))) (k+m) b)
         have HGs:=hid (readGo_step k m c l)
         have HGe:=hid (readGo_stop k m c l)
         have HGl:=hid (readGo_len k m c l)
         have HSl:=hid (stripe_flat k m c l)
         have HBl:=hid (fun a b=>show(badS l c a (k+m) b).length<=k+m from by rw [badS_eq];exact Nat.le_trans (badG_len _ _) (Nat.le_of_eq (goodS_len l c a (k+m))))
         have HStr := hid (fun (B n' : Nat) (ov bv v' : Value) (out l' : List UInt8) (bad : List Nat) (W : World) (h1 : RdAt W B w.heap.size k m c ov out bv bad n') (h2 : ∀ W', Below w.heap.size W W' → See W' eB v' l') (h3 : l'.length = (k + m) * (c + 4)) (h4 : l'.length ≤ 4000) (h5 : n' ≤ 50000) (h6 : bad.length ≤ 50000) (h7 : out.length ≤ 500000) (h8 : w.heap.size ≤ W.heap.size) (h9 : w.heap.size ≤ B) (h10 : ∀ W', Below w.heap.size W W' → Crc W') =>
          stripe_any B w.heap.size k m c n' ov bv v' out l' bad W h1 h2 h3 h4 hk hkm hc1 h5 h6 h7 h8 h9 h10)
         obtain⟨sN,hsN⟩:∃ sN,sN=strN k c n:=⟨_,rfl⟩
         obtain⟨L,hLe⟩:∃ L,L=(k+m)*(c+4):=⟨_,rfl⟩
         obtain⟨KC,hKC⟩:∃ KC,KC=k*c:=⟨_,rfl⟩
         rw [<- hsN,<- hLe]at heq HSz
         rw [<- hLe]at HLd hL0 HCut HBCut HStr HGs HGe HGl HSl
         rw [<- hsN]at HR hnk
         rw [<- hKC]at hkc0 hnk HGl HSl
         have hsL:sN*5<=sN*L:=Nat.mul_le_mul_left _ (by omega)
         have hkcL:KC<=L:=by rw [hKC,hLe];exact Nat.mul_le_mul (by omega) (by omega)
         have hsKC:sN*KC<=sN*L:=Nat.mul_le_mul_left _ hkcL
         have hL4:(k+m)<=L:=by rw [hLe];exact Nat.le_mul_of_pos_right _ (by omega)
         have hskm:sN*(k+m)<=sN*L:=Nat.mul_le_mul_left _ hL4
         have HLn:=hid (And.intro heq (And.intro hnk (And.intro hsL (And.intro hsKC (And.intro hkcL hskm)))))
         have HS:=hid hs
         have HT:=hid ht
         rw [<- heq]at HSz
         have hl0:¬(l.length:Int)<l.length:=by omega
         have hnl:(n:Int)<=8388608:=by omega
         have HLe:=hid hLe
         clear hs ht q1 q2 q3 q4 hlim hsh hlo heq hsN hLe hKC hsL hkcL hsKC hL4 hskm hnk
         go_enter Tryz.func29, Tryz.ntmps29
         go_wp2_with fail
         refine(HSz.out _).mono ?_
         rintro e w1 ⟨rfl,hf1⟩
         go_wp2_with fail
         have hA:Fr w1 (w1.alloc (.cells #[N k,N m,N c,.slice none 0 0,.slice none 0 0,.int .i64 0] 130)):=(Fr.refl w1).alloc _
         have hB0:=heap_new w1 (.cells #[N k,N m,N c,.slice none 0 0,.slice none 0 0,.int .i64 0] 130) w1.heap.size rfl
         generalize w1.alloc (.cells #[N k,N m,N c,.slice none 0 0,.slice none 0 0,.int .i64 0] 130)=w2 at *
         have hBw:=hf1.size
         generalize w1.heap.size=B at *
         have hf02:=hf1.trans hA
         have hR0:RdAt w2 B w.heap.size k m c (.slice none 0 0) [] (.slice none 0 0) [] 0:=⟨hB0,Ow.nil,Ow.nil⟩
         clear hA hB0 hf1 HSz
         go_loopw [4,16] (fun sv ev wr=>∃ (s n':Nat) (a':Option Addr) (c':Nat) (ov bv:Value) (out:List UInt8) (bad:List Nat),s<=sN/\Hid (n'=l.length - s*L)/\sv=.slice a' n' c'/\See w eB (.slice a' n' c') (l.drop (s*L))/\RdAt wr B w.heap.size k m c ov out bv bad (s*(k+m))/\Hid (out.length=s*KC)/\Hid (bad.length<=s*(k+m))/\Hid (readGo k m c l (sN - s) s out bad=readGo k m c l sN 0 [] [])/\Fr w wr) (fun sv _ _=>slLen sv)
         case atStart=>exact⟨0,l.length,a0,cap,_,_,[],[],Nat.zero_le _,by show _=_;rw [Nat.zero_mul,Nat.sub_zero],rfl,by rw [Nat.zero_mul];exact HS.out,by rw [Nat.zero_mul];exact hR0,by show _=_;simp,Nat.zero_le _,rfl,hf02⟩
         case round=>
          clear hR0 hf02
          obtain⟨s,n',a',c',ov,bv,out,bad,hsle,HN',rfl,hse,hRd,hOl,hBd,hGo,hf⟩:=hrel
          by_cases hlt:s<sN
          · have hsL1:s*L+L<=l.length:=by
              rw [HLn.out.1]
              have:=Nat.mul_le_mul_right L (show s+1<=sN from hlt)
              rw [Nat.add_mul,Nat.one_mul]at this
              exact this
            have hdl:(l.drop (s*L)).length=n':=by rw [List.length_drop];exact HN'.out.symm
            have hLn:L<=n':=by rw [HN'.out];omega
            obtain⟨hto,hts⟩:=run_to eB 22 Tryz.underlying22 hse L (by rw [hdl];exact hLn)
            obtain⟨fa,fc,hfr,hfs⟩:=run_from eB 22 Tryz.underlying22 hse L (by rw [hdl];exact hLn)
            rw [hdl]at hfr hfs
            have htl:((l.drop (s*L)).take L).length=L:=by rw [List.length_take,hdl];omega
            have hskm:s*(k+m)<=sN*(k+m):=Nat.mul_le_mul_right _ hsle
            have hsKC:s*KC<=sN*KC:=Nat.mul_le_mul_right _ hsle
            obtain⟨l1,l2,l3,l4,l5,l6⟩:=HLn.out
            have hb5:bad.length<=50000:=by have:=hBd.out;omega
            have ho5:out.length<=500000:=by have:=hOl.out;omega
            have hS:=hid (fun W (h:Fr wr W)=>HStr.out B (s*(k+m)) ov bv (.slice a' L c') out ((l.drop (s*L)).take L) bad W (hRd.fr h) (fun W' h'=>hts.fr (Below.trans (show Below w.heap.size w W from hf.trans h) h')) htl (by rw [htl];omega) (by omega) hb5 ho5 (hf.trans h).size hBw (fun W' h'=>HT.out.fr (Below.trans (show Below w.heap.size w W from hf.trans h) h')))
            rw [HCut.out s,HBCut.out s]at hS
            obtain⟨f,hfe⟩:∃ f,sN - s=f+1:=⟨sN - s - 1,by omega⟩
            have hfe2:sN - (s+1)=f:=by omega
            have HGo:=hGo.out
            rw [hfe]at HGo
            have HSt:=hid (fun h=>HGs.out f s out bad h)
            have HSp:=hid (fun h=>HGe.out f s out bad h)
            have HFl:=hid (fun h=>HSl.out (s*L) hsL1 h)
            have hbS:=HBl.out (s*L) (s*(k+m))
            have hs1:(s+1)*L=s*L+L:=by rw [Nat.add_mul,Nat.one_mul]
            have hs2:(s+1)*KC=s*KC+KC:=by rw [Nat.add_mul,Nat.one_mul]
            have hs3:(s+1)*(k+m)=s*(k+m)+(k+m):=by rw [Nat.add_mul,Nat.one_mul]
            have hdr:(l.drop (s*L)).drop L=l.drop ((s+1)*L):=by rw [List.drop_drop,hs1]
            rw [hdr]at hfs
            have hn2:Hid (n' - L=l.length - (s+1)*L):=by show _=_;rw [hs1,HN'.out];omega
            have HGo2:=hid HGo
            have HNum:=hid (And.intro hs2 (And.intro hs3 hfe2))
            have d0:wr.cell? ⟨B,0,none⟩=some (N k):=by rw [cell_of_heap hRd.h];rfl
            have d1:wr.cell? ⟨B,1,none⟩=some (N m):=by rw [cell_of_heap hRd.h];rfl
            have d2:wr.cell? ⟨B,2,none⟩=some (N c):=by rw [cell_of_heap hRd.h];rfl
            have hB1:=hRd.h
            have hov:=hRd.o.lt
            have hbv:=hRd.b.lt
            have hn0:(0:Int)<n':=by omega
            have hLn2:(L:Int)<=n':=by omega
            have HLn2:=hid hLn
            clear l1 l2 l3 l4 l5 l6 hskm hsKC htl hsL1 hdl hLn hs1 hs2 hs3 hdr HGo hGo hfe hfe2 hts hse hRd
            generalize stripeR k m c l (s*L)=sr at *
            generalize badS l c (s*L) (k+m) (s*(k+m))=bs at *
            go_wp2_with fail
            refine(HLd.out _).mono ?_
            rintro e w3 ⟨rfl,hf3⟩
            have hS3:=hid (hS.out w3 hf3)
            go_wp2_with fail
            refine hS3.out.mono ?_
            rintro e w4 ⟨rfl,hok,hch⟩
            have hf04 : Fr w w4 := Chg.below (hf.trans hf3) hch (hf.trans hf3).size (fun i e => by
             rcases e with e | e | e
             · omega
             · exact (hov i e).1
             · exact (hbv i e).1)
            have HOk:=hid hok
            clear hok hch hS hS3
            by_cases herr:sr.1=0
            · obtain⟨ov',bv',hR4⟩:=HOk.out herr
              have e0:=hR4.h
              have x0:w4.cell? ⟨B,0,none⟩=some (N k):=by rw [cell_of_heap e0];rfl
              have x1:w4.cell? ⟨B,1,none⟩=some (N m):=by rw [cell_of_heap e0];rfl
              have x2:w4.cell? ⟨B,2,none⟩=some (N c):=by rw [cell_of_heap e0];rfl
              have HR4:=hid hR4
              have HFl2:=hid (HFl.out herr)
              have HSt2:=hid (HSt.out herr)
              rw [herr]
              clear e0 hR4 HFl HSt HSp HOk
              go_wp2_with fail
              refine(HLd.out _).mono ?_
              rintro e w5 ⟨rfl,hf5⟩
              have hf05:=hf04.trans hf5
              have hR5:=HR4.out.fr hf5
              go_wp2_with fail
              go_roundw
              case rel=>
               exact ⟨s + 1, n' - L, fa, fc, ov', bv', out ++ sr.2.flatten, bad ++ bs, hlt, hn2, rfl, hfs, by rw [HNum.out.2.1]; exact hR5, by
                show _ = _
                rw [List.length_append, hOl.out, HFl2.out, HNum.out.1], by
                show _ ≤ _
                rw [List.length_append, HNum.out.2.1]
                have := hBd.out; omega, by
                show _ = _
                rw [HNum.out.2.2, ← HSt2.out]; exact HGo2.out, hf05⟩
              case measure=>
               have:=HLn2.out
               simp [slLen];omega
            · have HRE:Hid (readS k m c n l=(sr.1,[],[])):=by
                show _=_
                rw [HR.out]
                simp only [<- HGo2.out,HSp.out herr,herr,if_false]
              have hxne:¬((sr.1:Nat):Int)=0:=by omega
              clear HFl HSt HSp HOk hbv hov HR
              obtain⟨x,hx⟩:∃ x,x=sr.1:=⟨_,rfl⟩
              rw [<- hx]at HRE hxne ⊢
              clear hx
              go_wp2_with fail
              go_ret3
              rw [HRE.out]
              exact⟨_,_,rfl,Ow.nil,Ow.nil,hf04⟩
          · have hsN:sN=s:=by omega
            subst hsN
            obtain⟨l1,l2,l3,l4,l5,l6⟩:=HLn.out
            have hn0:n'=0:=by rw [HN'.out];omega
            subst hn0
            have hon:n<=out.length:=by rw [hOl.out];exact l2
            have ho5:out.length<=4000:=by rw [hOl.out];omega
            have hg0:=hGo.out
            rw [Nat.sub_self]at hg0
            have hg1:readGo k m c l sN 0 [] []=(0,out,bad):=hg0.symm
            have HRE:Hid (readS k m c n l=if(out.drop n).all (· == 0)then(0,out.take n,bad)else(2,[],[])):=by
             show _=_
             rw [HR.out,hg1]
             rfl
            obtain⟨oa,oc,hov⟩:=hRd.o.shape'
            subst hov
            obtain⟨fa,fc,hfr,hfs⟩:=run_from eB 22 Tryz.underlying22 hRd.o.see n hon
            obtain⟨hto,hts⟩:=run_to eB 22 Tryz.underlying22 hRd.o.see n hon
            have d3:wr.cell? ⟨B,3,none⟩=some (.slice oa out.length oc):=by rw [cell_of_heap hRd.h];rfl
            have d4:wr.cell? ⟨B,4,none⟩=some bv:=by rw [cell_of_heap hRd.h];rfl
            have hzl:(out.drop n).length=out.length - n:=List.length_drop
            have HCl:=hid (fun W (h:Fr wr W)=>BClone_any (.slice oa n oc) (out.take n) W (hts.fr h) (by rw [List.length_take];omega))
            obtain⟨ol,hol⟩:∃ ol,ol=out.length:=⟨_,rfl⟩
            obtain⟨zl,hzle⟩:∃ zl,zl=ol - n:=⟨_,rfl⟩
            rw [<- hol]at hfr hto d3 hzl hon ho5
            rw [<- hol]at hfs
            rw [<- hzle]at hfr hfs hzl
            have hbJ:=hRd.b
            have hzb:zl<=4000:=by omega
            have hnb:(n:Int)<=ol:=by omega
            have HZl:=hid hzl
            have HRd:=hid hRd
            clear l1 l2 l3 l4 l5 l6 hg0 hg1 hGo hOl hBd HN' HR HStr HSl HGl HGs HGe HBl HBCut HCut HLd hts hse hRd hol hzle hzl
            generalize out.drop n=ZS at *
            generalize out.take n=TK at *
            go_wp2_with fail
            go_loopw [76,18] (fun iv xv wx=>∃ i:Nat,i<=zl/\iv=N i/\(∀ j,j<i->ZS.getD j 0=0)/\wx=wr) (fun iv _ _=>zl - (intOf iv).toNat)
            case atStart=>exact⟨0,Nat.zero_le _,rfl,fun j h=>absurd h (Nat.not_lt_zero j),rfl⟩
            case round=>
             obtain⟨i,hi,rfl,hz,hw⟩:=hrel
             subst hw
             by_cases hlt2:i<zl
             · have hiz:i<ZS.length:=by rw [HZl.out];exact hlt2
               obtain⟨b,off,cp,hv,e1⟩:=hfs.cell1 Fk.u8 rfl i hiz
               simp only [Value.slice.injEq]at hv
               obtain⟨rfl,hz1,rfl⟩:=hv
               clear hz1
               have HgZ:=hid (getD_at ZS i 0 hiz)
               have e2:wr.cell? ⟨b,off+i,none⟩=some (.int .u8 ((ZS[i].toNat:Nat):Int)):=e1
               have HiZ:=hid hiz
               obtain⟨zx,hzx⟩:∃ x:UInt8,x=ZS[i]'hiz:=⟨_,rfl⟩
               rw [<- hzx]at e2 HgZ
               have HxZ:=hid (show zx.toNat=0->zx=0 from fun h=>UInt8.toNat_inj.1 (by rw [h];rfl))
               have HxN:=hid (show zx=0->zx.toNat=0 from fun h=>by rw [h];rfl)
               clear e1 hzx hiz
               have i1:(i:Int)<zl:=by omega
               have i2:(0:Int)<=i:=by omega
               by_cases hx:zx.toNat=0
               · rw [hx]at e2
                 have e3:wr.cell? ⟨b,off+i,none⟩=some (.int .u8 0):=e2
                 have hx0:=hid (HxZ.out hx)
                 clear e2 hx HxZ HxN
                 go_wp2_with fail
                 go_roundw
                 case rel => exact ⟨i + 1, by omega, by go_num, (fun j hj => by
                  rcases Nat.lt_or_ge j i with h | h
                  · exact hz j h
                  · obtain rfl : j = i := by omega
                    rw [HgZ.out, hx0.out]), by trivial⟩
                 case measure=>simp [intOf];omega
               · have hx1:¬((zx.toNat:Nat):Int)=0:=by omega
                 have hne:Hid (readS k m c n l=(2,[],[])):=by
                  show _=_
                  rw [HRE.out,if_neg]
                  intro h
                  have:=List.all_eq_true.1 h (ZS[i]'HiZ.out) (List.getElem_mem _)
                  have h2:=HgZ.out
                  rw [getD_at ZS i 0 HiZ.out]at h2
                  rw [h2]at this
                  exact hx (HxN.out (by simpa using this))
                 clear hx HxZ HxN
                 go_wp2_with fail
                 go_ret3
                 rw [hne.out]
                 exact⟨_,_,rfl,Ow.nil,Ow.nil,hf⟩
             · obtain rfl:i=zl:=by omega
               have hall:Hid (readS k m c n l=(0,TK,bad)):=by
                show _=_
                rw [HRE.out,if_pos]
                rw [List.all_eq_true]
                intro x hx
                obtain⟨j,hj,rfl⟩:=List.mem_iff_getElem.1 hx
                have:=hz j (by rw [<- HZl.out];exact hj)
                rw [getD_at ZS j 0 hj]at this
                rw [this];rfl
               have hnl2:¬((i:Int)<i):=by omega
               have HC2:=hid (HCl.out wr.drew (Fr.refl wr).drew)
               clear hz HRE hfs
               go_upto_region 20 with fail
               go_region_held3 (fun w' => w'.cell? ⟨B, 3, none⟩ = some (.slice oa ol oc) ∧ w'.cell? ⟨B, 4, none⟩ = some bv)
                (first | go_keep)
                ((go_at_call 76;refine HC2.out.mono ?_;rintro e w6 ⟨v6,rfl,hO6,hf6⟩;have uu3:=hf6.cell d3;have uu4:=hf6.cell d4))
               have hf16:=(Fr.refl wr).drew.trans hf6
               have hO7:=hO6.rebase (b:=w.heap.size) hf.size
               have hb7:=hbJ.fr hf16
               have hf07:=hf.trans hf16
               clear hO6 hbJ uu3 uu4 d3 d4
               go_wp2_with fail
               go_ret3
               rw [hall.out]
               exact⟨_,_,rfl,hO7,hb7,hf07⟩
set_option maxRecDepth 512
end Go.Proofs.YtijghcbpfcjjnaaGreatDoor
