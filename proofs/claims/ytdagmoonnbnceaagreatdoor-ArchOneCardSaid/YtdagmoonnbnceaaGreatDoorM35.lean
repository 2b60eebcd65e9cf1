/- Parts of the proof of ArchOne: We3 We4 We5. -/
import Derived.Test.YtdagmoonnbnceaaGreatDoorM34
import Derived.Test.YtdagmoonnbnceaaGreatDoorM21
set_option linter.unusedVariables false
set_option linter.unusedSectionVars false
set_option linter.unusedSimpArgs false
set_option maxHeartbeats 8000000
set_option maxRecDepth 100000
namespace Go.Proofs.YtdagmoonnbnceaaGreatDoor
open Go.RowKit Go.Fk
def dictB(n:Nat)(l:List (List UInt8)):List UInt8:=(numB l.length++((chunksL l n).map fun c=>numB (bktB c).length).flatten)++((chunksL l n).map bktB).flatten
theorem chunks_len{α:Type}(l:List α)(n:Nat):(chunksL l n).length=ckN l.length n:=by simp [chunksL]
theorem chunks_at{α:Type}(l:List α)(n j:Nat)(h:j<(chunksL l n).length):(chunksL l n)[j]=(l.drop (j*n)).take n:=by simp [chunksL]
theorem ckN_mul(len n:Nat)(hn:1<=n):ckN len n*n<=len+n - 1:=by unfold ckN;exact Nat.div_mul_le_self _ _
theorem chunk_mem{α:Type}{l:List α}{n:Nat}{c:List α}(h:c∈chunksL l n):c.length<=n/\∀ s∈c,s∈l:=by
 obtain⟨j,hj,rfl⟩:=List.mem_iff_getElem.1 h
 rw [chunks_at]
 exact⟨by rw [List.length_take];omega,fun s hs=>List.mem_of_mem_drop (List.mem_of_mem_take hs)⟩
theorem heads_len(l:List (List UInt8))(n j:Nat)(hn:1<=n)(hn2:n<=64)(hl:l.length<=10000)(hb:∀ s∈l,s.length<=25):((((chunksL l n).take j).map fun c=>numB (bktB c).length).flatten).length<=100630:=by
  rw [flat_len]
  refine Nat.le_trans (wtS_le _ 10 _ fun c hc=>?_) ?_
  · have h1:=chunk_mem (List.mem_of_mem_take hc)
    have h2:=bktB_len 25 (by omega) c (fun s hs=>hb s (h1.2 s hs))
    have h3:c.length*(25+20)<=64*45:=Nat.mul_le_mul (by omega) (Nat.le_refl _)
    exact numB_le _ (by omega)
  · have h1:=ckN_mul l.length n hn
    have h2:((chunksL l n).take j).length<=ckN l.length n:=by rw [List.length_take,chunks_len];omega
    have h3:ckN l.length n*1<=ckN l.length n*n:=Nat.mul_le_mul_left _ hn
    omega
theorem bodies_len(l:List (List UInt8))(n j:Nat)(hn:1<=n)(hn2:n<=64)(hl:l.length<=10000)(hb:∀ s∈l,s.length<=25):((((chunksL l n).take j).map bktB).flatten).length<=452880:=by
  rw [flat_len]
  refine Nat.le_trans (wtS_le _ (45*n) _ fun c hc=>?_) ?_
  · have h1:=chunk_mem (List.mem_of_mem_take hc)
    have h2:=bktB_len 25 (by omega) c (fun s hs=>hb s (h1.2 s hs))
    have h3:c.length*(25+20)<=n*45:=Nat.mul_le_mul h1.1 (Nat.le_refl _)
    have h4:45*n=n*45:=Nat.mul_comm _ _
    show(bktB c).length<=_
    omega
  · have h1:=ckN_mul l.length n hn
    have h2:((chunksL l n).take j).length<=ckN l.length n:=by rw [List.length_take,chunks_len];omega
    have h3:((chunksL l n).take j).length*(45*n)<=ckN l.length n*(45*n):=Nat.mul_le_mul_right _ h2
    have h4:ckN l.length n*(45*n)=45*(ckN l.length n*n):=by rw [Nat.mul_left_comm]
    omega
attribute [local go_sem] Oper.semAt_some
section
variable {P:Program} {α:Type} {w:World} {base:Nat} {v:Value} {l:List α} {F:Fence} {nF:Nat}
theorem step_appIn(E:Elt P α){ops:Array Oper}{o:Oper}{a:Act}{K:Act->World->Prop}{Q:Exit->Act->World->Prop}{X:Prop}(hgd:o.guard=none)(s x:Operand)(t:TypeId)
  (ho:o.op=.call { callee:=.builtin .append,args:=#[s,x],argTypes:=#[t,t] }) (ht:P.underlying t=some (.slice E.e))
  (base:Nat) (hs:a.eval s=v) (hown:Ow w base E v l) (y:Value) (m:List α) (hx:a.eval x=y) (hsee:See w E y m) (hn:l.length+m.length<=2147483648) (hbase:base<=w.heap.size)
  (h:∀ v' w',App base E (l++m) w v v' w'->K (a.put o.dst v') w'):if Region.wanted o (yielded ops a.tmps)=true then Oper.wpIn F nF P o a w K Q else X:=by
 have hw:Region.wanted o (yielded ops a.tmps)=true:=by simp [Region.wanted,hgd]
 rw [if_pos hw]
 obtain⟨v',w',hr,h2⟩:=run_app (P:=P) E w base t o.type ht hown hsee hn hbase
 unfold Oper.wpIn
 refine⟨?_,?_⟩
 · simp [Oper.about,ho,resolve,Target.leads,Sem.run_pure]
 · rw [Oper.semAt_plain F _ _ (by rw [ho];intro c hc';cases hc')]
   simp [execOp,ho,resolve,invoke,builtin,hs,hx,hr,Result.andThen]
   exact h v' w' h2
end
abbrev dwOps : Array Oper := #[{ dst := some 31, op := Op.load 27 (Operand.tmp 6), type := 27, pos := "dict.go:70", after := #[], guard := none },
 { dst := some 32, op := Op.move (Operand.tmp 9), type := 27, pos := "dict.go:70", after := #[], guard := none },
 { dst := some 33, op := Op.call { callee := Callee.builtin Builtin.len, args := #[Operand.tmp 32], argTypes := #[27] }, type := 3, pos := "dict.go:70", after := #[{ on := 1, ground := Ground.data }], guard := none },
 { dst := some 34, op := Op.convert 3 34 (Operand.tmp 33), type := 34, pos := "dict.go:70", after := #[{ on := 2, ground := Ground.data }], guard := none },
 { dst := some 35, op := Op.call { callee := Callee.value (Operand.func 27), args := #[Operand.tmp 34], argTypes := #[34] }, type := 27, pos := "dict.go:70", after := #[{ on := 3, ground := Ground.data }], guard := none },
 { dst := some 36, op := Op.call { callee := Callee.builtin Builtin.append, args := #[Operand.tmp 31, Operand.tmp 35], argTypes := #[27, 27] }, type := 27, pos := "dict.go:70", after := #[{ on := 0, ground := Ground.data }, { on := 4, ground := Ground.data }, { on := 4, ground := Ground.chain }], guard := none },
 { dst := none, op := Op.store 27 (Operand.tmp 6) (Operand.tmp 36), type := 0, pos := "dict.go:70", after := #[{ on := 5, ground := Ground.data }, { on := 5, ground := Ground.chain }, { on := 0, ground := Ground.phase }, { on := 1, ground := Ground.phase }, { on := 2, ground := Ground.phase }, { on := 3, ground := Ground.phase }, { on := 4, ground := Ground.phase }, { on := 5, ground := Ground.phase }], guard := none }]
abbrev dwA(n len nbl:Nat)(a0:Option Addr)(cap:Nat)(va:Option Addr)(vc H:Nat)(xv t8 t9 t29 t30 t31 t32 t33 t34 t35 t36 t37 t38 t39:Value):Act:=
 { tmps:=#[N n,.slice a0 len cap,undef,undef,.slice none 0 0,.int .i64 0,.pointer (some ⟨H,0,none⟩),.pointer (some ⟨H+1,0,none⟩),t8,t9,N n,.bool false,.bool false,N n,.bool false,.bool false,.bool false,.slice a0 len cap,.bool true,.bool false,.bool false,.slice a0 len cap,.int .i64 (len:Int),.int .u64 (len:Int),.slice va nbl vc,.slice a0 len cap,N n,.func (.func 164) #[] #[.pointer (some ⟨H+1+1,0,none⟩),.pointer (some ⟨H+1+1+1,0,none⟩)],xv,t29,t30,t31,t32,t33,t34,t35,t36,t37,t38,t39,undef,undef,undef,undef],defers:=[] }
theorem dw_end{W w5 w6:World}{H B n6 vc6:Nat}{va6:Option Addr}{hv:Value}{hd L:List UInt8}(hO:Ow W B eB hv hd)(hf:Fr W w5)(hH6:w6.heap[H]? = some (.cells #[hv] 27 (0,0)))(hO6:Ow w6 B eB (.slice va6 n6 vc6) L)
  (hC:Chg (fun k=>hv.ownBlock=some k) w5 w6) (hF:∀ b,(Value.slice va6 n6 vc6).ownBlock=some b->hv.ownBlock=some b\/w5.heap.size<=b) :
  (w6.setCell ⟨H,0,none⟩ (.slice va6 n6 vc6)).heap[H]? = some (.cells #[.slice va6 n6 vc6] 27 (0,0))/\Ow (w6.setCell ⟨H,0,none⟩ (.slice va6 n6 vc6)) B eB (.slice va6 n6 vc6) L /\
   Chg (fun k=>k=H\/hv.ownBlock=some k) W (w6.setCell ⟨H,0,none⟩ (.slice va6 n6 vc6))/\(∀ b,(Value.slice va6 n6 vc6).ownBlock=some b->hv.ownBlock=some b\/W.heap.size<=b):=by
 have hst:=setCell_chg w6 ⟨H,0,none⟩ (.slice va6 n6 vc6)
 have hne:=hO6.ne_cells hH6 (by decide)
 refine⟨by have:=heap_setCell_own hH6 0 (.slice va6 n6 vc6);simpa using this,hO6.chg hst (fun k hk e=>hne (by rw [hk,e])),?_,fun b hb=>(hF b hb).imp id (fun h=>Nat.le_trans hf.size h)⟩
 exact((hf.chg (fun k=>k=H\/hv.ownBlock=some k)).trans (hC.mono (fun k _ e=>.inr e)) (fun _ _ h=>h)).trans hst (fun _ _ h=>.inl h)
theorem dw_region(lr m:Nat)(n len nbl:Nat)(a0:Option Addr)(cap:Nat)(va:Option Addr)(vc H B:Nat)(xv t8 t29 t30:Value)(ba:Option Addr)(bn bc:Nat)(hv:Value)(hd:List UInt8)(W:World)(Q:Exit->Act->World->Prop)
  (hH:W.heap[H]? = some (.cells #[hv] 27 (0,0))) (hO:Ow W B eB hv hd) (hBW:B<=W.heap.size) (hbn:bn<=1000000) (hdl:hd.length<=1000000)
  (hQ : ∀ w' hv' t31 t35 t36, w'.heap[H]? = some (.cells #[hv'] 27 (0, 0)) → Ow w' B eB hv' (hd ++ numB bn) → Chg (fun k => k = H ∨ hv.ownBlock = some k) W w' → (∀ b, hv'.ownBlock = some b → hv.ownBlock = some b ∨ W.heap.size ≤ b) →
   Q .normal (dwA n len nbl a0 cap va vc H xv t8 (.slice ba bn bc) t29 t30 t31 (.slice ba bn bc) (N bn) (.int .u64 (bn : Int)) t35 t36 undef undef undef) w') :
  (Code.region 8 dwOps true).wpIn (Fence.wide.inRound lr) m Tryz.prog Q (dwA n len nbl a0 cap va vc H xv t8 (.slice ba bn bc) t29 t30 undef undef undef undef undef undef undef undef undef) W:=by
 have HNm:=hid (Num_any bn (by omega))
 have hnl:=numB_le bn (by omega)
 generalize numB bn=nb at *
 have hw1:IntKind.u64.wrap (bn:Int)=(bn:Int):=IntWalk.u64_in _ (by omega)
 obtain⟨ha,hc,rfl⟩:=hO.shape'
 have c0:=cellx hH 0 rfl
 have HH:=hid hH
 have HO:=hid hO
 have HQ:=hid hQ
 clear hH hO hQ
 refine wpIn_region_any (by kernel_rfl) ?_
 change wpAnyIn _ _ _ _ _ _ _ _ _ (World.drew _)
 have hfw:Fr W W.drew:=(Fr.refl W).drew
 refine wpAnyIn_ready (rs:=[0,1]) (by kernel_rfl) (by simp) ?_
 refine AllReadyIn.cons rfl (fun K hK=>?_) ?_
 · skip
   go_simp
   refine hK _ _ ?_
   clear hK K
   refine wpAnyIn_ready (rs:=[1]) (by kernel_rfl) (by simp) ?_
   refine AllReadyIn.cons rfl (fun K hK=>?_) AllReadyIn.nil
   go_simp
   refine hK _ _ ?_
   clear hK K
   refine wpAnyIn_ready (rs:=[2]) (by kernel_rfl) (by simp) ?_
   refine AllReadyIn.cons rfl (fun K hK=>?_) AllReadyIn.nil
   go_simp
   refine hK _ _ ?_
   clear hK K
   refine wpAnyIn_ready (rs:=[3]) (by kernel_rfl) (by simp) ?_
   refine AllReadyIn.cons rfl (fun K hK=>?_) AllReadyIn.nil
   go_simp
   refine hK _ _ ?_
   clear hK K
   refine wpAnyIn_ready (rs:=[4]) (by kernel_rfl) (by simp) ?_
   refine AllReadyIn.cons rfl (fun K hK=>?_) AllReadyIn.nil
   go_simp
   refine⟨trivial,by simp [Fence.wide],(CallsIn.inRound lr (callsIn_wide.2 (HNm.out _))).mono ?_⟩
   rintro e w5 ⟨v5,rfl,hO5,hf5⟩
   have c5:=(hfw.trans hf5).cell c0
   refine hK _ _ ?_
   clear hK K
   refine wpAnyIn_ready (rs:=[5]) (by kernel_rfl) (by simp) ?_
   refine AllReadyIn.cons rfl (fun K hK=>?_) AllReadyIn.nil
   refine step_appIn eB rfl (.tmp 31) (.tmp 35) 27 rfl Tryz.underlying27 B rfl (HO.out.fr (hfw.trans hf5)) _ _ rfl hO5.see (by omega) (by have:=(hfw.trans hf5).size;omega) ?_
   intro v6 w6 hap6
   have hH6:=hap6.chg'.heap ((hfw.trans hf5).heap HH.out) (HO.out.ne_cells HH.out (by decide))
   have hO6:=hap6.own
   have hC6:=hap6.chg'
   have hF6:=hap6.fresh
   obtain⟨va6,vc6,rfl⟩:=hO6.shape'
   simp only [List.length_append]at hO6 hF6
   have e6:=cellx hH6 0 rfl
   have f6:w6.frozen? ⟨H,0,none⟩=false:=frozen_of_heap hH6 0
   have HH6:=hid hH6
   clear hH6
   refine hK _ _ ?_
   clear hK K hap6
   refine wpAnyIn_ready (rs:=[6]) (by kernel_rfl) (by simp) ?_
   refine AllReadyIn.cons rfl (fun K hK=>?_) AllReadyIn.nil
   go_simp
   refine hK _ _ ?_
   clear hK K
   refine wpAnyIn_done (by kernel_rfl) ?_ _
   obtain⟨r1,r2,r3,r4⟩:=dw_end HO.out (hfw.trans hf5) HH6.out hO6 hC6 hF6
   exact HQ.out _ _ _ _ _ r1 r2 r3 r4
 refine AllReadyIn.cons rfl (fun K hK=>?_) AllReadyIn.nil
 go_simp
 refine hK _ _ ?_
 clear hK K
 refine wpAnyIn_ready (rs:=[0,2]) (by kernel_rfl) (by simp) ?_
 refine AllReadyIn.cons rfl (fun K hK=>?_) ?_
 · skip
   go_simp
   refine hK _ _ ?_
   clear hK K
   refine wpAnyIn_ready (rs:=[2]) (by kernel_rfl) (by simp) ?_
   refine AllReadyIn.cons rfl (fun K hK=>?_) AllReadyIn.nil
   go_simp
   refine hK _ _ ?_
   clear hK K
   refine wpAnyIn_ready (rs:=[3]) (by kernel_rfl) (by simp) ?_
   refine AllReadyIn.cons rfl (fun K hK=>?_) AllReadyIn.nil
   go_simp
   refine hK _ _ ?_
   clear hK K
   refine wpAnyIn_ready (rs:=[4]) (by kernel_rfl) (by simp) ?_
   refine AllReadyIn.cons rfl (fun K hK=>?_) AllReadyIn.nil
   go_simp
   refine⟨trivial,by simp [Fence.wide],(CallsIn.inRound lr (callsIn_wide.2 (HNm.out _))).mono ?_⟩
   rintro e w5 ⟨v5,rfl,hO5,hf5⟩
   have c5:=(hfw.trans hf5).cell c0
   refine hK _ _ ?_
   clear hK K
   refine wpAnyIn_ready (rs:=[5]) (by kernel_rfl) (by simp) ?_
   refine AllReadyIn.cons rfl (fun K hK=>?_) AllReadyIn.nil
   refine step_appIn eB rfl (.tmp 31) (.tmp 35) 27 rfl Tryz.underlying27 B rfl (HO.out.fr (hfw.trans hf5)) _ _ rfl hO5.see (by omega) (by have:=(hfw.trans hf5).size;omega) ?_
   intro v6 w6 hap6
   have hH6:=hap6.chg'.heap ((hfw.trans hf5).heap HH.out) (HO.out.ne_cells HH.out (by decide))
   have hO6:=hap6.own
   have hC6:=hap6.chg'
   have hF6:=hap6.fresh
   obtain⟨va6,vc6,rfl⟩:=hO6.shape'
   simp only [List.length_append]at hO6 hF6
   have e6:=cellx hH6 0 rfl
   have f6:w6.frozen? ⟨H,0,none⟩=false:=frozen_of_heap hH6 0
   have HH6:=hid hH6
   clear hH6
   refine hK _ _ ?_
   clear hK K hap6
   refine wpAnyIn_ready (rs:=[6]) (by kernel_rfl) (by simp) ?_
   refine AllReadyIn.cons rfl (fun K hK=>?_) AllReadyIn.nil
   go_simp
   refine hK _ _ ?_
   clear hK K
   refine wpAnyIn_done (by kernel_rfl) ?_ _
   obtain⟨r1,r2,r3,r4⟩:=dw_end HO.out (hfw.trans hf5) HH6.out hO6 hC6 hF6
   exact HQ.out _ _ _ _ _ r1 r2 r3 r4
 refine AllReadyIn.cons rfl (fun K hK=>?_) AllReadyIn.nil
 go_simp
 refine hK _ _ ?_
 clear hK K
 refine wpAnyIn_ready (rs:=[0,3]) (by kernel_rfl) (by simp) ?_
 refine AllReadyIn.cons rfl (fun K hK=>?_) ?_
 · skip
   go_simp
   refine hK _ _ ?_
   clear hK K
   refine wpAnyIn_ready (rs:=[3]) (by kernel_rfl) (by simp) ?_
   refine AllReadyIn.cons rfl (fun K hK=>?_) AllReadyIn.nil
   go_simp
   refine hK _ _ ?_
   clear hK K
   refine wpAnyIn_ready (rs:=[4]) (by kernel_rfl) (by simp) ?_
   refine AllReadyIn.cons rfl (fun K hK=>?_) AllReadyIn.nil
   go_simp
   refine⟨trivial,by simp [Fence.wide],(CallsIn.inRound lr (callsIn_wide.2 (HNm.out _))).mono ?_⟩
   rintro e w5 ⟨v5,rfl,hO5,hf5⟩
   have c5:=(hfw.trans hf5).cell c0
   refine hK _ _ ?_
   clear hK K
   refine wpAnyIn_ready (rs:=[5]) (by kernel_rfl) (by simp) ?_
   refine AllReadyIn.cons rfl (fun K hK=>?_) AllReadyIn.nil
   refine step_appIn eB rfl (.tmp 31) (.tmp 35) 27 rfl Tryz.underlying27 B rfl (HO.out.fr (hfw.trans hf5)) _ _ rfl hO5.see (by omega) (by have:=(hfw.trans hf5).size;omega) ?_
   intro v6 w6 hap6
   have hH6:=hap6.chg'.heap ((hfw.trans hf5).heap HH.out) (HO.out.ne_cells HH.out (by decide))
   have hO6:=hap6.own
   have hC6:=hap6.chg'
   have hF6:=hap6.fresh
   obtain⟨va6,vc6,rfl⟩:=hO6.shape'
   simp only [List.length_append]at hO6 hF6
   have e6:=cellx hH6 0 rfl
   have f6:w6.frozen? ⟨H,0,none⟩=false:=frozen_of_heap hH6 0
   have HH6:=hid hH6
   clear hH6
   refine hK _ _ ?_
   clear hK K hap6
   refine wpAnyIn_ready (rs:=[6]) (by kernel_rfl) (by simp) ?_
   refine AllReadyIn.cons rfl (fun K hK=>?_) AllReadyIn.nil
   go_simp
   refine hK _ _ ?_
   clear hK K
   refine wpAnyIn_done (by kernel_rfl) ?_ _
   obtain⟨r1,r2,r3,r4⟩:=dw_end HO.out (hfw.trans hf5) HH6.out hO6 hC6 hF6
   exact HQ.out _ _ _ _ _ r1 r2 r3 r4
 refine AllReadyIn.cons rfl (fun K hK=>?_) AllReadyIn.nil
 go_simp
 refine hK _ _ ?_
 clear hK K
 refine wpAnyIn_ready (rs:=[0,4]) (by kernel_rfl) (by simp) ?_
 refine AllReadyIn.cons rfl (fun K hK=>?_) ?_
 · skip
   go_simp
   refine hK _ _ ?_
   clear hK K
   refine wpAnyIn_ready (rs:=[4]) (by kernel_rfl) (by simp) ?_
   refine AllReadyIn.cons rfl (fun K hK=>?_) AllReadyIn.nil
   go_simp
   refine⟨trivial,by simp [Fence.wide],(CallsIn.inRound lr (callsIn_wide.2 (HNm.out _))).mono ?_⟩
   rintro e w5 ⟨v5,rfl,hO5,hf5⟩
   have c5:=(hfw.trans hf5).cell c0
   refine hK _ _ ?_
   clear hK K
   refine wpAnyIn_ready (rs:=[5]) (by kernel_rfl) (by simp) ?_
   refine AllReadyIn.cons rfl (fun K hK=>?_) AllReadyIn.nil
   refine step_appIn eB rfl (.tmp 31) (.tmp 35) 27 rfl Tryz.underlying27 B rfl (HO.out.fr (hfw.trans hf5)) _ _ rfl hO5.see (by omega) (by have:=(hfw.trans hf5).size;omega) ?_
   intro v6 w6 hap6
   have hH6:=hap6.chg'.heap ((hfw.trans hf5).heap HH.out) (HO.out.ne_cells HH.out (by decide))
   have hO6:=hap6.own
   have hC6:=hap6.chg'
   have hF6:=hap6.fresh
   obtain⟨va6,vc6,rfl⟩:=hO6.shape'
   simp only [List.length_append]at hO6 hF6
   have e6:=cellx hH6 0 rfl
   have f6:w6.frozen? ⟨H,0,none⟩=false:=frozen_of_heap hH6 0
   have HH6:=hid hH6
   clear hH6
   refine hK _ _ ?_
   clear hK K hap6
   refine wpAnyIn_ready (rs:=[6]) (by kernel_rfl) (by simp) ?_
   refine AllReadyIn.cons rfl (fun K hK=>?_) AllReadyIn.nil
   go_simp
   refine hK _ _ ?_
   clear hK K
   refine wpAnyIn_done (by kernel_rfl) ?_ _
   obtain⟨r1,r2,r3,r4⟩:=dw_end HO.out (hfw.trans hf5) HH6.out hO6 hC6 hF6
   exact HQ.out _ _ _ _ _ r1 r2 r3 r4
 refine AllReadyIn.cons rfl (fun K hK=>?_) AllReadyIn.nil
 go_simp
 refine⟨trivial,by simp [Fence.wide],(CallsIn.inRound lr (callsIn_wide.2 (HNm.out _))).mono ?_⟩
 rintro e w5 ⟨v5,rfl,hO5,hf5⟩
 have c5:=(hfw.trans hf5).cell c0
 refine hK _ _ ?_
 clear hK K
 refine wpAnyIn_ready (rs:=[0]) (by kernel_rfl) (by simp) ?_
 refine AllReadyIn.cons rfl (fun K hK=>?_) AllReadyIn.nil
 go_simp
 refine hK _ _ ?_
 clear hK K
 refine wpAnyIn_ready (rs:=[5]) (by kernel_rfl) (by simp) ?_
 refine AllReadyIn.cons rfl (fun K hK=>?_) AllReadyIn.nil
 refine step_appIn eB rfl (.tmp 31) (.tmp 35) 27 rfl Tryz.underlying27 B rfl (HO.out.fr (hfw.trans hf5)) _ _ rfl hO5.see (by omega) (by have:=(hfw.trans hf5).size;omega) ?_
 intro v6 w6 hap6
 have hH6:=hap6.chg'.heap ((hfw.trans hf5).heap HH.out) (HO.out.ne_cells HH.out (by decide))
 have hO6:=hap6.own
 have hC6:=hap6.chg'
 have hF6:=hap6.fresh
 obtain⟨va6,vc6,rfl⟩:=hO6.shape'
 simp only [List.length_append]at hO6 hF6
 have e6:=cellx hH6 0 rfl
 have f6:w6.frozen? ⟨H,0,none⟩=false:=frozen_of_heap hH6 0
 have HH6:=hid hH6
 clear hH6
 refine hK _ _ ?_
 clear hK K hap6
 refine wpAnyIn_ready (rs:=[6]) (by kernel_rfl) (by simp) ?_
 refine AllReadyIn.cons rfl (fun K hK=>?_) AllReadyIn.nil
 go_simp
 refine hK _ _ ?_
 clear hK K
 refine wpAnyIn_done (by kernel_rfl) ?_ _
 obtain⟨r1,r2,r3,r4⟩:=dw_end HO.out (hfw.trans hf5) HH6.out hO6 hC6 hF6
 exact HQ.out _ _ _ _ _ r1 r2 r3 r4
attribute [local go_sem] Oper.semAt_some
theorem chunk_see1{w:World}{v:Value}{l:List (List UInt8)}{b off n:Nat}(hn:1<=n)(h:See w eS v l)(hv:l=[]\/∃ cap,v=.slice (some ⟨b,off,none⟩) l.length cap)(j:Nat)(hj:j<ckN l.length n) :
  See w eS (ckHd b off l.length n j).v ((l.drop (j*n)).take n):=by
 have hlt:=(ckN_lt l.length n hn j).1 hj
 rcases hv with rfl | ⟨cap,rfl⟩
 · simp at hlt
 · obtain⟨_,_,hsv,hc1,hc2,_⟩:=h.shape
   cases hsv
   have hp:=see_part h (j*n) (min n (l.length - j*n)) (min n (l.length - j*n)) (by omega) (Nat.le_refl _) (by omega)
   rw [show(eS:Elt Tryz.prog (List UInt8)).k=1 from rfl,Nat.mul_one]at hp
   have e2:(l.drop (j*n)).take (min n (l.length - j*n))=(l.drop (j*n)).take n:=by
    rcases Nat.le_total n (l.length - j*n)with hh | hh
    · rw [Nat.min_eq_left hh]
    · rw [Nat.min_eq_right hh,List.take_of_length_le (by simp),List.take_of_length_le (by simp;omega)]
   rw [e2]at hp
   exact hp
def DwI{α:Type}(w0:World)(H B n:Nat)(vs:Value)(nb:List UInt8)(hf bf:α->List UInt8)(pre:List α)(W:World):Prop:=
 ∃ hv bv,W.heap[H]? = some (.cells #[hv] 27 (0,0))/\W.heap[H+1]? = some (.cells #[bv] 27 (0,0))/\W.heap[H+1+1]? = some (.cells #[vs] 92 (0,0))/\W.heap[H+1+1+1]? = some (.cells #[N n] 3 (0,0)) /\
  Ow W B eB hv (nb++(pre.map hf).flatten)/\Ow W B eB bv (pre.map bf).flatten/\(bv.ownBlock=none\/bv.ownBlock≠hv.ownBlock)/\Fr w0 W
theorem DwI.own{α:Type}(w0:World)(H B n D:Nat)(vs:Value)(nb:List UInt8)(hf bf:α->List UInt8)(hD:w0.heap.size<=D):OwnFrom D (DwI w0 H B n vs nb hf bf):=by
 rintro s W W' row ⟨hv,bv,h1,h2,h3,h4,h5,h6,h7,h8⟩ hg hr
 have hne:∀ {q:Nat} {o:Obj},W.heap[q]? = some o->o.isCells=true->W'.heap[q]? = some o:=fun {q o} hq ho=>by
  rw [hg.block q (Array.getElem?_eq_some_iff.1 hq).1 (fun e => by
   obtain ⟨_, o', ho', hc⟩ := hr q e.symm
   rw [hq] at ho'; cases ho'; rw [ho] at hc; cases hc)]
  exact hq
 refine⟨hv,bv,hne h1 rfl,hne h2 rfl,hne h3 rfl,hne h4 rfl,ow_keptG h5 hg (fun r e=>(hr r e).2),ow_keptG h6 hg (fun r e=>(hr r e).2),h7,?_⟩
 exact h8.own hg (fun k e=>by have:=(hr k e).1;omega)
theorem pre_heads(l:List (List UInt8))(n:Nat)(hn:1<=n)(hn2:n<=64)(hl:l.length<=10000)(hb:∀ s∈l,s.length<=25)(pre:List (Fin (ckN l.length n)))(hp:pre.length<ckN l.length n) :
  ((pre.map fun j:Fin (ckN l.length n)=>numB (bktB ((l.drop (j.val*n)).take n)).length).flatten).length<=100630:=by
 rw [flat_len]
 refine Nat.le_trans (wtS_le _ 10 _ fun j _=>?_) ?_
 · have h2:=bktB_len 25 (by omega) ((l.drop (j.val*n)).take n) (fun s hs=>hb s (List.mem_of_mem_drop (List.mem_of_mem_take hs)))
   have h3:((l.drop (j.val*n)).take n).length*(25+20)<=64*45:=Nat.mul_le_mul (by rw [List.length_take];omega) (Nat.le_refl _)
   exact numB_le _ (by omega)
 · have h1:=ckN_mul l.length n hn
   have h3:ckN l.length n*1<=ckN l.length n*n:=Nat.mul_le_mul_left _ hn
   omega
theorem pre_bodies(l:List (List UInt8))(n:Nat)(hn:1<=n)(hn2:n<=64)(hl:l.length<=10000)(hb:∀ s∈l,s.length<=25)(pre:List (Fin (ckN l.length n)))(hp:pre.length<ckN l.length n) :
  ((pre.map fun j:Fin (ckN l.length n)=>bktB ((l.drop (j.val*n)).take n)).flatten).length<=452880:=by
 rw [flat_len]
 refine Nat.le_trans (wtS_le _ (45*n) _ fun j _=>?_) ?_
 · have h2:=bktB_len 25 (by omega) ((l.drop (j.val*n)).take n) (fun s hs=>hb s (List.mem_of_mem_drop (List.mem_of_mem_take hs)))
   have h3:((l.drop (j.val*n)).take n).length*(25+20)<=n*45:=Nat.mul_le_mul (by rw [List.length_take];omega) (Nat.le_refl _)
   have h4:45*n=n*45:=Nat.mul_comm _ _
   show(bktB _).length<=_
   omega
 · have h1:=ckN_mul l.length n hn
   have h3:pre.length*(45*n)<=ckN l.length n*(45*n):=Nat.mul_le_mul_right _ (by omega)
   have h4:ckN l.length n*(45*n)=45*(ckN l.length n*n):=by rw [Nat.mul_left_comm]
   omega
theorem finRange_map{β:Type}(M:Nat)(f:Nat->β):(List.finRange M).map (fun j:Fin M=>f j.val)=(List.range M).map f:=by
 apply List.ext_getElem
 · simp
 · intro i h1 h2
   simp
theorem DWrite_any (n : Nat) (hn1 : 1 ≤ n) (hn2 : n ≤ 64) (v : Value) (l : List (List UInt8)) (w : World) (hs : See w eS v l) (hk : txtOk l) (hl : l.length ≤ 10000) :
    Calls Tryz.prog 81 #[N n,v] w fun e w'=>∃ u,e=.returned (.tuple #[u,.int .i64 0])/\Ow w' w.heap.size eB u (dictB n l)/\Fr w w':=by
  obtain⟨a0,cap,rfl,hcap1,hcap2,hnone⟩:=hs.shape
  have HS:=hid hs
  have hb25:∀ s∈l,s.length<=25:=fun s h=>(hk.2.1 s h).2
  have HM:=hid (drises_any _ l w hs hk)
  have HN0:=hid (Num_any l.length (by omega))
  have hnl:=numB_le l.length (by omega)
  have HHl:=hid (fun j=>heads_len l n j hn1 hn2 hl hb25)
  have HBl:=hid (fun j=>bodies_len l n j hn1 hn2 hl hb25)
  have HB:=hid hb25
  have HD:Hid (dictB n l=(numB l.length++((chunksL l n).map fun c=>numB (bktB c).length).flatten)++((chunksL l n).map bktB).flatten):=rfl
  clear hs hnone hb25
  generalize dictB n l=T at *
  generalize numB l.length=nb at *
  have j1:¬(n:Int)<1:=by omega
  have j2:¬(64:Int)<n:=by omega
  have hw1:IntKind.u64.wrap (l.length:Int)=(l.length:Int):=IntWalk.u64_in _ (by omega)
  have HCh:=hid (fun W=>chunkS_any a0 l.length cap n hn1 W)
  refine(callsIn_wide (n:=9)).1 ?_
  refine callsIn_of_wp_marks Tryz.func81 rfl trivial ?_ rfl
  simp only [Tryz.ntmps81,List.size_toArray,List.length_cons,List.length_nil,Nat.reduceAdd,Nat.reduceSub,Array.replicate_succ,Array.replicate_zero,List.push_toArray,List.append_toArray,List.nil_append,List.cons_append]
  have hfA:Fence.wide.fn 115:=trivial
  have hfB:Fence.wide.fn 27:=trivial
  have hfC:Fence.wide.fn 116:=trivial
  gi_wp2_with (first
    | (gi_at_call 115; refine (callsIn_wide.2 HM.out).mono ?_; rintro e w1 ⟨rfl, rfl⟩)
    | (gi_at_call 27; refine (callsIn_wide.2 (HN0.out _)).mono ?_; rintro e w2 ⟨v2, rfl, hO2, hf2⟩; obtain ⟨va, vc, hv2⟩ := hO2.shape'; subst hv2)
    | (gi_at_call 116; refine (callsIn_wide.2 (HCh.out _)).mono ?_; rintro e w3 ⟨rfl, rfl⟩))
  have hsz1:(w2.alloc (.cells #[.slice va nb.length vc] 27)).heap.size=w2.heap.size+1:=size_alloc _ _
  have hsz2:((w2.alloc (.cells #[.slice va nb.length vc] 27)).alloc (.cells #[.slice none 0 0] 27)).heap.size=w2.heap.size+1+1:=by rw [size_alloc,hsz1]
  have hsz3:(((w2.alloc (.cells #[.slice va nb.length vc] 27)).alloc (.cells #[.slice none 0 0] 27)).alloc (.cells #[.slice a0 l.length cap] 92)).heap.size=w2.heap.size+1+1+1:=by rw [size_alloc,hsz2]
  have hfA1:Fr w2 (w2.alloc (.cells #[.slice va nb.length vc] 27)):=(Fr.refl w2).alloc _
  have g0:=heap_new w2 (.cells #[.slice va nb.length vc] 27) w2.heap.size rfl
  generalize w2.alloc (.cells #[.slice va nb.length vc] 27)=A1 at *
  have hfA2:Fr A1 (A1.alloc (.cells #[.slice none 0 0] 27)):=(Fr.refl A1).alloc _
  have g1:=heap_new A1 (.cells #[.slice none 0 0] 27) (w2.heap.size+1) hsz1.symm
  generalize A1.alloc (.cells #[.slice none 0 0] 27)=A2 at *
  have hfA3:Fr A2 (A2.alloc (.cells #[.slice a0 l.length cap] 92)):=(Fr.refl A2).alloc _
  have g2:=heap_new A2 (.cells #[.slice a0 l.length cap] 92) (w2.heap.size+1+1) hsz2.symm
  generalize A2.alloc (.cells #[.slice a0 l.length cap] 92)=A3 at *
  have hfA4:Fr A3 (A3.alloc (.cells #[N n] 3)):=(Fr.refl A3).alloc _
  have g3:=heap_new A3 (.cells #[N n] 3) (w2.heap.size+1+1+1) hsz3.symm
  generalize A3.alloc (.cells #[N n] 3)=A4 at *
  have hfw4:Fr w A4:=hf2.trans (hfA1.trans (hfA2.trans (hfA3.trans hfA4)))
  have k0:=hfA4.heap (hfA3.heap (hfA2.heap g0))
  have k1:=hfA4.heap (hfA3.heap g1)
  have k2:=hfA4.heap g2
  have hO4:=hO2.fr (hfA1.trans (hfA2.trans (hfA3.trans hfA4)))
  have hHl:w2.heap.size+1+1+1<A4.heap.size:=(Array.getElem?_eq_some_iff.1 g3).1
  have hHw0:w.heap.size<=w2.heap.size:=hf2.size
  generalize w2.heap.size=H at *
  obtain⟨cb,coff,hcv,hseq⟩:=chunkS_fin (H+1+1) (H+1+1+1) (.slice a0 l.length cap) l n hn1 (by omega) (by omega) A4 k2 g3 (HS.out.fr hfw4)
  have HX:=hid (fun W (h:Fr w W) j hj=>chunk_see1 hn1 (HS.out.fr h) hcv j hj)
  have h0:DwI w H w.heap.size n (.slice a0 l.length cap) nb (fun j:Fin (ckN l.length n)=>numB (bktB ((l.drop (j.val*n)).take n)).length) (fun j:Fin (ckN l.length n)=>bktB ((l.drop (j.val*n)).take n)) [] A4:=
    ⟨_,_,k0,k1,k2,g3,by simpa using hO4,by simpa using Ow.nil,.inl rfl,hfw4⟩
  have hHw:w.heap.size<=H:=hHw0
  clear hsz1 hsz2 hsz3 hfA1 hfA2 hfA3 hfA4 g0 g1 g2 g3 k0 k1 k2 hO2 hO4 hf2 hcv
  refine wpIn_rangeFunc_ownF rfl (by omega) (gf:=164) (lb:=#[.pointer (some ⟨H+1+1,0,none⟩),.pointer (some ⟨H+1+1+1,0,none⟩)]) rfl trivial (enters_of Tryz.func164 (by kernel_rfl) rfl) (hseq _ (by omega)) (fun h k=>KeepB.trans h k) (KeepB.put (by omega) (by omega)) (Below.refl _ A4) (fun _=>rfl)
    _ (fun _ _ _=>False) (DwI.own w H w.heap.size n A4.heap.size _ nb _ _ hfw4.size) (fun _ _ _ _ _ hs _ _=>hs) h0 (fun x=>dwA n l.length nb.length a0 cap va vc H (ckHd cb coff l.length n x.val).v (ckHd cb coff l.length n x.val).v undef undef undef undef undef undef undef undef undef undef undef undef) ?assign ?body ?done ?stop
  case assign=>
    intro l x W K hK
    gi_wp2
    exact hK
  case body=>
    rintro lr pre x W ⟨hv,bv,h1,h2,h3,h4,h5,h6,h7,h8⟩ hpl
    have hsee:=HX.out W h8 x.val x.isLt
    have hjl:x.val*n<l.length:=(ckN_lt l.length n hn1 x.val).1 x.isLt
    have hpre1:((pre.map fun j:Fin (ckN l.length n)=>numB (bktB ((l.drop (j.val*n)).take n)).length).flatten).length<=100630:=pre_heads l n hn1 hn2 hl HB.out pre hpl
    have hpre2:((pre.map fun j:Fin (ckN l.length n)=>bktB ((l.drop (j.val*n)).take n)).flatten).length<=452880:=pre_bodies l n hn1 hn2 hl HB.out pre hpl
    obtain⟨c,hc⟩:∃ c,c=(l.drop (x.val*n)).take n:=⟨_,rfl⟩
    have hcl:c.length<=n/\c≠[]:=by
      rw [hc]
      refine⟨by rw [List.length_take];omega,fun e=>?_⟩
      have:=congrArg List.length e
      rw [List.length_take,List.length_drop]at this
      simp at this;omega
    have hc25:∀ s∈c,s.length<=25:=fun s h=>HB.out s (by rw [hc]at h;exact List.mem_of_mem_drop (List.mem_of_mem_take h))
    rw [<- hc]at hsee
    have HCe:=hid hc
    clear hc
    have HBk:=hid (bucket_any _ c W hsee hcl.2 hc25 (by omega))
    have hbl:(bktB c).length<=64*45:=by
      have h1:=bktB_len 25 (by omega) c hc25
      have h3:c.length*(25+20)<=64*45:=Nat.mul_le_mul (by omega) (Nat.le_refl _)
      omega
    generalize hbe:bktB c=bk at *
    have HBe:=hid hbe
    clear hbe hsee hc25 hcl
    have hfD:Fence.wide.fn 117:=trivial
    gi_wp2_with (first
      | (gi_at_call 117; refine (CallsIn.inRound lr (callsIn_wide.2 HBk.out)).mono ?_; rintro e w5 ⟨u5, rfl, hO5, hf5⟩; obtain ⟨ua, uc, hu⟩ := hO5.shape'; subst hu))
    have hBW:w.heap.size<=W.heap.size:=h8.size
    refine dw_region lr _ n l.length nb.length a0 cap va vc H w.heap.size _ _ _ _ ua bk.length uc hv (nb++(pre.map fun j:Fin (ckN l.length n)=>numB (bktB ((l.drop (j.val*n)).take n)).length).flatten) w5 _ (hf5.heap h1) (h5.fr hf5) (Nat.le_trans hBW hf5.size) (by omega) (by rw [List.length_append];omega) ?_
    intro w6 hv' t31 t35 t36 q1 q2 q3 q4
    have n1:=h5.ne_cells h2 (by decide)
    have n2:=h5.ne_cells h3 (by decide)
    have n3:=h5.ne_cells h4 (by decide)
    have n4:=h6.ne_cells h1 (by decide)
    have r2 := q3.heap (hf5.heap h2) (by rintro (e | e); · omega
                                         · exact n1 e)
    have r3 := q3.heap (hf5.heap h3) (by rintro (e | e); · omega
                                         · exact n2 e)
    have r4 := q3.heap (hf5.heap h4) (by rintro (e | e); · omega
                                         · exact n3 e)
    have hB6 := (h6.fr hf5).chg q3 (fun k hk => by
      rintro (e | e)
      · exact n4 (by rw [hk, e])
      · rcases h7 with h7 | h7
        · rw [h7] at hk; cases hk
        · exact h7 (by rw [hk, e]))
    have hU6 := hO5.chg q3 (fun k hk => by
      have i1 := (hO5.lt k hk).1
      rintro (e | e)
      · have := (Array.getElem?_eq_some_iff.1 h1).1; omega
      · have := (h5.lt k e).2; omega)
    have hap6:bv.ownBlock=none\/bv.ownBlock≠hv'.ownBlock:=by
      cases hbo:bv.ownBlock with
      | none=>exact .inl rfl
      | some g=>
        refine .inr fun e=>?_
        rcases q4 g e.symm with e2 | e2
        · rcases h7 with h7 | h7
          · rw [h7]at hbo;cases hbo
          · exact h7 (by rw [hbo,e2])
        · have:=(h6.lt g hbo).2;have:=hf5.size;omega
    have hF6 : Fr w w6 := Chg.below (h8.trans hf5) q3 (h8.trans hf5).size (fun i e => by
      rcases e with e | e
      · omega
      · have := (h5.lt i e).1; omega)
    obtain⟨bd,hbd⟩:∃ bd,bd=(pre.map fun j:Fin (ckN l.length n)=>bktB ((l.drop (j.val*n)).take n)).flatten:=⟨_,rfl⟩
    rw [<- hbd]at hB6 hpre2 h6
    have HBd:=hid hbd
    clear hbd
    obtain⟨ba,bc,rfl⟩:=hB6.shape'
    have c1:=cellx r2 0 rfl
    have HQ1:=hid q1
    have HR2:=hid r2
    have HR3:=hid r3
    have HR4:=hid r4
    have hK5 : KeepsOthers W w6 := (keeps_chg (hf5.chg (fun _ => False)) (fun _ _ _ e => e.elim)).trans (keeps_chg q3 (fun k o ho e => by
      rcases e with e | e
      · have hx := hf5.heap h1; rw [← e, ho] at hx; cases hx; rfl
      · exact ow_cells (h5.fr hf5) e ho))
    have hKB5:W.heap[H+1+1]? = w6.heap[H+1+1]? /\ W.heap[H+1+1+1]? = w6.heap[H+1+1+1]?:=⟨h3.trans r3.symm,h4.trans r4.symm⟩
    have HK5:=hid (And.intro hK5 hKB5)
    clear h1 h2 h3 h4 h5 h6 h7 q1 r2 r3 r4 q3 q4 n1 n2 n3 n4 hK5 hKB5 hO5
    gi_wp2_with (gi_at_builtin;refine wpListIn_app eB rfl (.tmp 37) (.tmp 38) 27 rfl Tryz.underlying27 _ rfl hB6 _ _ rfl hU6.see (by omega) hF6.size ?_)
    intro v7 w7 hap7
    obtain⟨va7,vc7,rfl⟩:=hap7.own.shape'
    have m2:w7.heap[H+1]? = some (.cells #[.slice ba bd.length bc] 27 (0,0)):=hap7.chg'.heap HR2.out (hB6.ne_cells HR2.out (by decide))
    have e7:=cellx m2 0 rfl
    have f7:w7.frozen? ⟨H+1,0,none⟩=false:=frozen_of_heap m2 0
    gi_wp2
    have o7:=hap7.own
    have fr7:=hap7.fresh
    simp only [List.length_append]at o7 fr7
    obtain⟨s1,s2,s3,s4⟩:=dw_end hB6 (Fr.refl w6) m2 o7 hap7.chg' fr7
    have p1:=hB6.ne_cells HQ1.out (by decide)
    have p3:=hB6.ne_cells HR3.out (by decide)
    have p4:=hB6.ne_cells HR4.out (by decide)
    have p5:=q2.ne_cells HR2.out (by decide)
    have ap7:=hap7.apart q2 (ne_flip hap6)
    simp only [List.length_append]at ap7
    refine ⟨HK5.out.1.trans (keeps_chg s3 (fun k o ho e => by
      rcases e with e | e
      · have hx := HR2.out; rw [← e, ho] at hx; cases hx; rfl
      · exact ow_cells hB6 e ho)), ?_, hv', _, ?_, s1, ?_, ?_, ?_, ?_, ne_flip ap7, ?_⟩
    · refine⟨?_,?_⟩
      · rw [s3.heap HR3.out (by rintro (e | e); · omega
                                · exact p3 e), HK5.out.2.1]; exact HR3.out.symm
      · rw [s3.heap HR4.out (by rintro (e | e); · omega
                                · exact p4 e), HK5.out.2.2]; exact HR4.out.symm
    · exact s3.heap HQ1.out (by rintro (e | e); · omega
                                · exact p1 e)
    · exact s3.heap HR3.out (by rintro (e | e); · omega
                                · exact p3 e)
    · exact s3.heap HR4.out (by rintro (e | e); · omega
                                · exact p4 e)
    · have := q2.chg s3 (fun k hk => by
        rintro (e | e)
        · exact p5 (by rw [hk, e])
        · rcases hap6 with h7 | h7
          · rw [h7] at e; cases e
          · exact h7 (by rw [hk, e]))
      rw [List.map_append,List.flatten_append,List.map_singleton,List.flatten_singleton,<- HCe.out,HBe.out,<- List.append_assoc]
      exact this
    · rw [List.map_append,List.flatten_append,List.map_singleton,List.flatten_singleton,<- HCe.out,HBe.out,<- HBd.out]
      exact s2
    · exact Chg.below hF6 s3 hF6.size (fun i e => by
        rcases e with e | e
        · omega
        · have := (hB6.lt i e).1; omega)
  case done=>
    rintro D ys W hD rfl ⟨hv,bv,h1,h2,h3,h4,h5,h6,h7,h8⟩ hK
    have HT:Hid (T=(nb++((List.finRange (ckN l.length n)).map fun j:Fin (ckN l.length n)=>numB (bktB ((l.drop (j.val*n)).take n)).length).flatten)++((List.finRange (ckN l.length n)).map fun j:Fin (ckN l.length n)=>bktB ((l.drop (j.val*n)).take n)).flatten):=by
      show _=_
      rw [HD.out,finRange_map (ckN l.length n) (fun j=>numB (bktB ((l.drop (j*n)).take n)).length),finRange_map (ckN l.length n) (fun j=>bktB ((l.drop (j*n)).take n))]
      unfold chunksL
      simp only [List.map_map]
      rfl
    have hHl2:(((List.finRange (ckN l.length n)).map fun j:Fin (ckN l.length n)=>numB (bktB ((l.drop (j.val*n)).take n)).length).flatten).length<=100630:=by
      have:=HHl.out (ckN l.length n)
      rw [List.take_of_length_le (by rw [chunks_len];exact Nat.le_refl _)]at this
      rw [finRange_map (ckN l.length n) (fun j=>numB (bktB ((l.drop (j*n)).take n)).length)]
      unfold chunksL at this
      simp only [List.map_map]at this
      exact this
    have hBl2:(((List.finRange (ckN l.length n)).map fun j:Fin (ckN l.length n)=>bktB ((l.drop (j.val*n)).take n)).flatten).length<=452880:=by
      have:=HBl.out (ckN l.length n)
      rw [List.take_of_length_le (by rw [chunks_len];exact Nat.le_refl _)]at this
      rw [finRange_map (ckN l.length n) (fun j=>bktB ((l.drop (j*n)).take n))]
      unfold chunksL at this
      simp only [List.map_map]at this
      exact this
    generalize ((List.finRange (ckN l.length n)).map fun j:Fin (ckN l.length n)=>numB (bktB ((l.drop (j.val*n)).take n)).length).flatten=hd at *
    generalize ((List.finRange (ckN l.length n)).map fun j:Fin (ckN l.length n)=>bktB ((l.drop (j.val*n)).take n)).flatten=bd at *
    obtain⟨hh,hhe⟩:∃ hh,hh=nb++hd:=⟨_,rfl⟩
    rw [<- hhe]at h5 HT
    have hhl:hh.length<=100640:=by rw [hhe,List.length_append];omega
    clear hhe hHl2
    obtain⟨ha,hc,rfl⟩:=h5.shape'
    obtain⟨ba,bc,rfl⟩:=h6.shape'
    have c0:=cellx h1 0 rfl
    have c1:=cellx h2 0 rfl
    have HAll:=hid (all2_any _ _ hh bd W h5.see h6.see (by omega))
    rw [<- HT.out]at HAll
    have HKd:=hid hK
    clear h1 h2 h3 h4 h5 h6 h7 hK HHl HBl
    have hfE:Fence.wide.fn 26:=trivial
    gi_wp2_with (gi_at_call 26;refine(callsIn_wide.2 HAll.out).mono ?_;rintro e w8 ⟨v8,rfl,hO8,hf8⟩)
    have hK8:=hf8.heap HKd.out
    obtain⟨va8,vc8,rfl⟩:=hO8.shape'
    refine⟨by simp,.inl ⟨_,_,rfl,run_takeDeferred hK8,?_⟩⟩
    refine⟨.tuple #[.slice va8 T.length vc8,.int .i64 0],by simp [results,Tryz.results81,go_sem, *],_,rfl,?_,?_⟩
    · exact ow_keptG (hO8.rebase h8.size) (grownBy_putObj' w8 D (.deferred none)) (fun r e=>by cases e;exact⟨_,hK8,rfl⟩)
    · exact Below.trans (h8.trans hf8) (belowK_b (w:=w) (Nat.le_refl _) w8 D _ _ (Nat.le_trans hfw4.size hD) hK8 rfl rfl)
  case stop=>
    rintro D c pre W hD _ h _
    exact h.elim
end Go.Proofs.YtdagmoonnbnceaaGreatDoor
