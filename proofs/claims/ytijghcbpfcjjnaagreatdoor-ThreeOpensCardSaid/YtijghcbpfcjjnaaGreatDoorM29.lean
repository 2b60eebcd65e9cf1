/- Parts of the proof of ThreeOpens: M5 M6 M7 Mr1. -/
import Derived.Test.YtijghcbpfcjjnaaGreatDoorM20
import Derived.Test.YtijghcbpfcjjnaaGreatDoorM15
set_option linter.unusedVariables false
set_option linter.unusedSectionVars false
set_option linter.unusedSimpArgs false
set_option maxHeartbeats 8000000
namespace Go.Proofs.YtijghcbpfcjjnaaGreatDoor
open Go.RowKit Go.Fk
theorem wrap_nmul(a b:Nat)(A B:Nat)(ha:a<=A)(hb:b<=B)(h:A*B<=1000000000):IntKind.i64.wrap ((a:Int)*b)=((a*b:Nat):Int):=by
 have:a*b<=A*B:=Nat.mul_le_mul ha hb
 rw [<- Int.natCast_mul];exact wrap_i64 _ (by omega)
set_option maxRecDepth 100000
theorem row_any (R C i g n cap base : Nat) (l : List UInt8) (w : World) (ho : Ow w base eB (.slice (some ⟨g, 0, none⟩) n cap) l) (hl : l.length = R * C) (hi : i < R) (hC : 1 ≤ C) (hC2 : C ≤ 255) (hR : R ≤ 255) :
    Calls Tryz.prog 219 #[.agg #[N R,N C,.slice (some ⟨g,0,none⟩) n cap],N i] w fun e w'=>e=.returned (.slice (some ⟨g,i*C,none⟩) C (cap - i*C))/\Fr w w':=by
  have h1:(i+1)*C=i*C+C:=by rw [Nat.add_mul,Nat.one_mul]
  have h2:(i+1)*C<=R*C:=Nat.mul_le_mul_right C hi
  have h3:R*C<=255*255:=Nat.mul_le_mul hR hC2
  obtain⟨hrun,_⟩:=run_mid_at rfl 22 Tryz.underlying22 ho (i*C) ((i+1)*C) (by omega) (by omega)
  have hw1:=wrap_nmul i C 255 255 (by omega) hC2 (by omega)
  have hw2:IntKind.i64.wrap (((i:Int)+1)*C)=(((i+1)*C:Nat):Int):=wrap_nmul (i+1) C 255 255 (by omega) hC2 (by omega)
  rw [show(i+1)*C - i*C=C by omega]at hrun
  have hib:(i:Int)+1<=255:=by omega
  clear h1 h2 h3 hl ho
  generalize i*C=p at *
  generalize (i+1)*C=q at *
  go_enter Tryz.func219, Tryz.ntmps219
  go_wp2_with fail
  go_ret
  exact⟨rfl,(Fr.refl w).alloc _⟩
set_option maxRecDepth 512
structure WorkAt (w:World) (B o n g cap:Nat):Prop where
 c0:w.cell? ⟨B,o,none⟩=some (N n)
 c1:w.cell? ⟨B,o+1,none⟩=some (N n)
 c2:w.cell? ⟨B,o+2,none⟩=some (.slice (some ⟨g,0,none⟩) (n*n) cap)
theorem WorkAt.fr{w w':World}{B o n g cap:Nat}(h:WorkAt w B o n g cap)(hf:Fr w w'):WorkAt w' B o n g cap:=⟨hf.cell h.c0,hf.cell h.c1,hf.cell h.c2⟩
theorem Chg.cell{G:Nat->Prop}{w w':World}(h:Chg G w w'){a:Addr}{u:Value}(hc:w.cell? a=some u)(hn:¬G a.block):w'.cell? a=some u:=
 (World.cell?_of_block (h.block a.block (World.block_lt_of_cell? w _ hc) hn)).trans hc
theorem WorkAt.chg{w w':World}{G:Nat->Prop}{B o n g cap:Nat}(h:WorkAt w B o n g cap)(hc:Chg G w w')(hn:¬G B):WorkAt w' B o n g cap:=⟨Chg.cell hc h.c0 hn,Chg.cell hc h.c1 hn,Chg.cell hc h.c2 hn⟩
set_option maxRecDepth 100000
theorem wrow_any(B o n i g cap base:Nat)(l:List UInt8)(w:World)(hW:WorkAt w B o n g cap)(ho:Ow w base eB (.slice (some ⟨g,0,none⟩) (n*n) cap) l)(hl:l.length=n*n)(hi:i<n)(hn:n<=255) :
  Calls Tryz.prog 254 #[.pointer (some ⟨B,o,none⟩),N i] w fun e w'=>e=.returned (.slice (some ⟨g,i*n,none⟩) n (cap - i*n))/\Fr w w':=by
 have HR:=hid (row_any n n i g (n*n) cap base l w ho hl hi (by omega) hn hn)
 obtain⟨c0,c1,c2⟩:=hW
 clear ho hl hi
 generalize n*n=m at *
 generalize cap - i*n=c9 at *
 generalize i*n=p at *
 go_enter Tryz.func254, Tryz.ntmps254
 go_wp2_with fail
 refine(HR.out).mono ?_
 rintro e w1 ⟨rfl,hf1⟩
 go_wp2_with fail
 go_ret
 exact⟨rfl,hf1⟩
theorem swap_any(B o n i j g cap base:Nat)(f:Nat->Nat->UInt8)(w:World)(hW:WorkAt w B o n g cap)(ho:Ow w base eB (.slice (some ⟨g,0,none⟩) (n*n) cap) (preL n f (n*n)))(hne:B≠g)(hi:i<n)(hj:j<n)(hn:n<=255) :
  Calls Tryz.prog 255 #[.pointer (some ⟨B,o,none⟩),N i,N j] w fun e w'=>e=.returned (.tuple #[])/\Ow w' base eB (.slice (some ⟨g,0,none⟩) (n*n) cap) (preL n (swapF f i j) (n*n))/\Chg (fun k=>k=g) w w':=by
 have hgw:g<w.heap.size:=(ho.lt g rfl).2
 have hlen:=preL_len n f (n*n)
 have hnn:n*n<=255*255:=Nat.mul_le_mul hn hn
 have hin:i*n+n<=n*n:=by have:=Nat.mul_le_mul_right n hi;rw [Nat.succ_mul]at this;exact this
 have hjn:j*n+n<=n*n:=by have:=Nat.mul_le_mul_right n hj;rw [Nat.succ_mul]at this;exact this
 have RI:=hid (fun W l (hW:WorkAt W B o n g cap) (ho:Ow W base eB (.slice (some ⟨g,0,none⟩) (n*n) cap) l) (hl:l.length=n*n)=>wrow_any B o n i g cap base l W hW ho hl hi hn)
 have RJ:=hid (fun W l (hW:WorkAt W B o n g cap) (ho:Ow W base eB (.slice (some ⟨g,0,none⟩) (n*n) cap) l) (hl:l.length=n*n)=>wrow_any B o n j g cap base l W hW ho hl hj hn)
 have S:=fun i (hi:i<n) (W:World) (hf:Fr w W)=>(run_mid_at (E:=eB) (t:=22) rfl Tryz.underlying22 (ho.fr hf) (i*n) ((i+1)*n) (by rw [Nat.succ_mul];omega) (by rw [hlen];exact Nat.mul_le_mul_right n hi)).2
 have SI:=hid (fun W hf=>by have:=S i hi W hf;rw [preL_row n f n i hi,show(i+1)*n - i*n=n by rw [Nat.succ_mul];omega]at this;exact this)
 have SJ:=hid (fun W hf=>by have:=S j hj W hf;rw [preL_row n f n j hj,show(j+1)*n - j*n=n by rw [Nat.succ_mul];omega]at this;exact this)
 clear S
 have hri:=rowOf_len n f i
 have hrj:=rowOf_len n f j
 have CI:=hid (fun W hf=>BClone_any _ (rowOf n f i) W (SI.out W hf) (by omega))
 have CJ:=hid (fun W hf=>BClone_any _ (rowOf n f j) W (SJ.out W hf) (by omega))
 have P1:Hid ((preL n f (n*n)).take (i*n)++(rowOf n f j++(preL n f (n*n)).drop (i*n+n))=preL n (putRow f i (f j)) (n*n)):=preL_put n f n i hi (f j)
 have P2:Hid ((preL n (putRow f i (f j)) (n*n)).take (j*n)++(rowOf n f i++(preL n (putRow f i (f j)) (n*n)).drop (j*n+n))=preL n (swapF f i j) (n*n)):=by
  have:=preL_put n (putRow f i (f j)) n j hj (f i)
  rw [put_swap]at this
  exact this
 have HL:=hid hlen
 have HL2:=hid (preL_len n (putRow f i (f j)) (n*n))
 clear hlen
 clear SI SJ
 generalize preL n (putRow f i (f j)) (n*n)=z2 at *
 generalize preL n (swapF f i j) (n*n)=z3 at *
 generalize preL n f (n*n)=z at *
 generalize rowOf n f i=ri at *
 generalize rowOf n f j=rj at *
 have HI:=hid hin
 have HJ:=hid hjn
 clear hin hjn
 have hw0:=hid (Fr.refl w)
 go_enter Tryz.func255, Tryz.ntmps255
 go_wp2_with fail
 refine(RI.out _ _ hW ho HL.out).mono ?_
 rintro e w1 ⟨rfl,hf1⟩
 go_wp2_with fail
 refine(CI.out _ hf1).mono ?_
 rintro e w2 ⟨v2,rfl,hO2,hf2⟩
 have hf02:=hf1.trans hf2
 go_wp2_with fail
 refine(RJ.out _ _ (hW.fr hf02) (ho.fr hf02) HL.out).mono ?_
 rintro e w3 ⟨rfl,hf3⟩
 have hf03:=hf02.trans hf3
 go_wp2_with fail
 refine(CJ.out _ hf03).mono ?_
 rintro e w4 ⟨v4,rfl,hO4,hf4⟩
 have hf04:=hf03.trans hf4
 have hO2':=hO2.fr (hf3.trans hf4)
 go_wp2_with fail
 refine(RI.out _ _ (hW.fr hf04) (ho.fr hf04) HL.out).mono ?_
 rintro e w5 ⟨rfl,hf5⟩
 have hf05:=hf04.trans hf5
 have hn0:0<n:=by omega
 have hO4':=hO4.fr hf5
 have hO2'':=hO2'.fr hf5
 go_wp2_with (refine wpList_copyMid rfl rfl (.tmp 18) (.tmp 19) 22 22 rfl Tryz.underlying22 g (i*n) n _ cap _ _ z rj rfl rfl (ho.fr hf05) hO4'.see hrj hn0 (by rw [HL.out];exact HI.out) ?_)
 intro w6 ho6 hc6
 rw [P1.out]at ho6
 have hc06:Chg (fun k=>k=g) w w6:=(hf05.chg _).trans hc6 fun _ _ h=>h
 have hO2c:=hO2''.chg hc6 fun k hk e=>by have:=(hO2.lt k hk).1;have:=hf1.size;omega
 go_wp2_with fail
 refine(RJ.out _ _ (hW.chg hc06 hne) ho6 HL2.out).mono ?_
 rintro e w7 ⟨rfl,hf7⟩
 go_wp2_with (refine wpList_copyMid rfl rfl (.tmp 23) (.tmp 24) 22 22 rfl Tryz.underlying22 g (j*n) n _ cap _ _ z2 ri rfl rfl (ho6.fr hf7) (hO2c.fr hf7).see hri hn0 (by rw [HL2.out];exact HJ.out) ?_)
 intro w8 ho8 hc8
 rw [P2.out]at ho8
 go_wp2_with fail
 go_end0
 exact⟨rfl,ho8,(hc06.trans (hf7.chg _) fun _ _ h=>h).trans hc8 fun _ _ h=>h⟩
set_option maxRecDepth 512
theorem pre_cell{w:World}{base g m cap n:Nat}{f:Nat->Nat->UInt8}(ho:Ow w base eB (.slice (some ⟨g,0,none⟩) m cap) (preL n f (n*n)))(r j:Nat)(hr:r<n)(hj:j<n) :
  w.cell? ⟨g,r*n+j,none⟩=some (.int .u8 ((f r j).toNat:Int))/\w.frozen? ⟨g,r*n+j,none⟩=false:=by
 have hlt:r*n+j<n*n:=by have:=Nat.mul_le_mul_right n hr;rw [Nat.succ_mul]at this;omega
 obtain⟨h1,h2⟩:=ho.cellAt Fk.u8 rfl (r*n+j) (by rw [preL_len];exact hlt)
 have e:=preL_cell n f n r j hr hj
 rw [getD_at _ _ _ (by rw [preL_len];exact hlt)]at e
 rw [e]at h1
 exact⟨h1,h2⟩
def scaleK(f:Nat->Nat->UInt8)(i:Nat)(c:UInt8)(k:Nat):Nat->Nat->UInt8:=fun r j=>if r=i/\j<k then mul8 c (f i j)else f r j
theorem scaleK_step(f:Nat->Nat->UInt8)(i:Nat)(c:UInt8)(k:Nat):(fun r j=>if r=i/\j=k then mul8 c (f i k)else scaleK f i c k r j)=scaleK f i c (k+1):=by
 funext r j
 unfold scaleK
 by_cases h1:r=i
 · by_cases h2:j=k
   · subst h1 h2;simp
   · by_cases h3:j<k
     · simp [h1,h2,h3,show j<k+1 by omega]
     · simp [h1,h2,h3,show ¬j<k+1 by omega]
 · simp [h1]
theorem scaleK_zero(f:Nat->Nat->UInt8)(i:Nat)(c:UInt8):scaleK f i c 0=f:=by
 funext r j;simp [scaleK]
theorem scaleK_all(n:Nat)(f:Nat->Nat->UInt8)(i:Nat)(c:UInt8):preL n (scaleK f i c n) (n*n)=preL n (scaleF f i c) (n*n):=by
 refine preL_congr n _ _ _ fun t ht=>?_
 have hn:0<n:=by rcases Nat.eq_zero_or_pos n with e | e;(subst e;simp at ht);exact e
 have:=Nat.mod_lt t hn
 unfold scaleK scaleF
 by_cases h:t / n=i
 · rw [if_pos ⟨h,this⟩,if_pos h]
 · rw [if_neg (fun e=>h e.1),if_neg h]
set_option maxRecDepth 100000
theorem scale_any(B o n i g cap base:Nat)(c:UInt8)(f:Nat->Nat->UInt8)(w:World)(hW:WorkAt w B o n g cap)(ho:Ow w base eB (.slice (some ⟨g,0,none⟩) (n*n) cap) (preL n f (n*n)))(hi:i<n)(hn:n<=255) :
  Calls Tryz.prog 256 #[.pointer (some ⟨B,o,none⟩),N i,.int .u8 (c.toNat:Int)] w fun e w'=>e=.returned (.tuple #[])/\Ow w' base eB (.slice (some ⟨g,0,none⟩) (n*n) cap) (preL n (scaleF f i c) (n*n))/\Chg (fun k=>k=g) w w':=by
 have hgw:g<w.heap.size:=(ho.lt g rfl).2
 have hnn:n*n<=255*255:=Nat.mul_le_mul hn hn
 have HRow:=hid (Row_any c.toNat c.toNat_lt)
 have RI:=hid (fun W (hW:WorkAt W B o n g cap) (ho:Ow W base eB (.slice (some ⟨g,0,none⟩) (n*n) cap) (preL n f (n*n)))=>wrow_any B o n i g cap base _ W hW ho (preL_len _ _ _) hi hn)
 go_enter Tryz.func256, Tryz.ntmps256
 go_wp2_with fail
 refine(HRow.out _).mono ?_
 rintro e w1 ⟨rfl,hf1⟩
 have hsr:(rowC c.toNat).size=256:=by simp [rowC]
 have hone:(rowC c.toNat).all (·.oneCell')=true:=by
  unfold rowC;rw [List.all_toArray,List.all_eq_true];intro u hu;obtain⟨_,_,rfl⟩:=List.mem_map.1 hu;rfl
 have hinf2:(Tryz.prog.info? 297).map (·.size)=some (rowC c.toNat).size:=by rw [hsr];kernel_rfl
 have hb1:(w1.alloc (.cells Tryz.zeroCells297 297)).heap[w1.heap.size]?=some (.cells Tryz.zeroCells297 297 (0,0)):=heap_new _ _ _ rfl
 have hzs:(Tryz.zeroCells297).size=(rowC c.toNat).size:=by rw [hsr];kernel_rfl
 have hrw:=setRow_heap _ w1.heap.size Tryz.zeroCells297 (rowC c.toNat) _ _ hb1
 have hf2:Fr w ((w1.alloc (.cells Tryz.zeroCells297 297)).setRow w1.heap.size (rowC c.toNat)):=
  Chg.below (hf1.alloc _) (setRow_chg _ _ _) (by simp;have:=hf1.size;omega) (fun k hk=>by rw [hk];exact hf1.size)
 generalize hw2:(w1.alloc (.cells Tryz.zeroCells297 297)).setRow w1.heap.size (rowC c.toNat)=w2 at *
 have hrs:w.heap.size<=w1.heap.size:=hf1.size
 go_wp2_with (refine wpList_store_row rfl 297 (.tmp 6) (.tmp 11) rfl w1.heap.size (rowC c.toNat) rfl rfl 297 Tryz.zeroCells297 hb1 hinf2 hzs hone ?_;rw [hw2])
 refine(RI.out _ (hW.fr hf2) (ho.fr hf2)).mono ?_
 rintro e w3 ⟨rfl,hf3⟩
 have hf03:=hf2.trans hf3
 have hr3:=hf3.heap hrw
 have ho3:=ho.fr hf03
 generalize w1.heap.size=r at *
 generalize hcp:cap - i*n=cp
 clear hcp hw2 hb1 hzs hrw hf2 hf3 HRow RI hW
 generalize hw0:w.heap.size=w0 at *
 go_wp2_with fail
 go_loopw [17] (fun kv wr=>∃ k:Nat,k<=n/\kv=N k/\Ow wr base eB (.slice (some ⟨g,0,none⟩) (n*n) cap) (preL n (scaleK f i c k) (n*n))/\wr.heap[r]?=some (.cells (rowC c.toNat) 297 (0,0))/\Chg (fun k=>k=g) w wr) (fun kv _=>n - (intOf kv).toNat)
 case atStart=>exact⟨0,Nat.zero_le _,rfl,by rw [scaleK_zero];exact ho3,hr3,hf03.chg _⟩
 case round=>
  clear ho3 hr3 hf03
  obtain⟨k,hk,rfl,hown,hrow,hc⟩:=hrel
  by_cases hlt:k<n
  · obtain⟨e1,z1⟩:=pre_cell hown i k hi hlt
    have hfk:scaleK f i c k i k=f i k:=by unfold scaleK;rw [if_neg (by omega)]
    rw [hfk]at e1
    have hset:=hown.set Fk.u8 rfl (i*n+k) (by rw [preL_len];have:=Nat.mul_le_mul_right n hi;rw [Nat.succ_mul]at this;omega) (mul8 c (f i k)) (B8 (mulN c.toNat (f i k).toNat)) (by show Value.int .u8 _=_;rw [mul8_nat])
    rw [preL_set n _ _ i k hlt,scaleK_step]at hset
    have hxl:=(f i k).toNat_lt
    generalize (f i k).toNat=x at *
    have e3:wr.cell? ⟨r,x,none⟩=some (B8 (mulN c.toNat x)):=by rw [cell_of_heap hrow];exact rowC_at c.toNat x hxl
    generalize mulN c.toNat x=m at *
    have hk':(k:Int)<n:=by omega
    have hk0:(0:Int)<=k:=by omega
    have hx1:(x:Int)<256:=by omega
    have hx0:(0:Int)<=x:=by omega
    have hgr:g≠r:=by intro e;omega
    go_wp2_with fail
    go_roundw
    case rel=>exact⟨k+1,by omega,by go_num,hset,(setCell_chg wr ⟨g,i*n+k,none⟩ _).heap hrow (fun e=>hgr e.symm),hc.trans (setCell_chg wr ⟨g,i*n+k,none⟩ _) fun _ _ h=>h⟩
    case measure=>simp [intOf];omega
  · have hkn:k=n:=by omega
    rw [hkn]at hown ⊢
    rw [scaleK_all]at hown
    have hnl:¬((n:Int)<n):=by omega
    go_wp2_with fail
    go_end0
    exact⟨rfl,hown,hc⟩
theorem wadd_any(B o n i k g cap base:Nat)(c:UInt8)(f:Nat->Nat->UInt8)(w:World)(hW:WorkAt w B o n g cap)(ho:Ow w base eB (.slice (some ⟨g,0,none⟩) (n*n) cap) (preL n f (n*n)))(hi:i<n)(hk:k<n)(hn:n<=255) :
  Calls Tryz.prog 257 #[.pointer (some ⟨B,o,none⟩),N i,.int .u8 (c.toNat:Int),N k] w fun e w'=>e=.returned (.tuple #[])/\Ow w' base eB (.slice (some ⟨g,0,none⟩) (n*n) cap) (preL n (putRow f i (fun j=>f i j ^^^ mul8 c (f k j))) (n*n))/\Chg (fun k=>k=g) w w':=by
 have hgw:g<w.heap.size:=(ho.lt g rfl).2
 have hlen:=preL_len n f (n*n)
 have hnn:n*n<=255*255:=Nat.mul_le_mul hn hn
 have hin:i*n+n<=n*n:=by have:=Nat.mul_le_mul_right n hi;rw [Nat.succ_mul]at this;exact this
 have RI:=hid (fun W l (hW:WorkAt W B o n g cap) (ho:Ow W base eB (.slice (some ⟨g,0,none⟩) (n*n) cap) l) (hl:l.length=n*n)=>wrow_any B o n i g cap base l W hW ho hl hi hn)
 have RK:=hid (fun W l (hW:WorkAt W B o n g cap) (ho:Ow W base eB (.slice (some ⟨g,0,none⟩) (n*n) cap) l) (hl:l.length=n*n)=>wrow_any B o n k g cap base l W hW ho hl hk hn)
 have S:=fun i (hi:i<n) (W:World) (hf:Fr w W)=>(run_mid_at (E:=eB) (t:=22) rfl Tryz.underlying22 (ho.fr hf) (i*n) ((i+1)*n) (by rw [Nat.succ_mul];omega) (by rw [hlen];exact Nat.mul_le_mul_right n hi)).2
 have SI:=hid (fun W hf=>by have:=S i hi W hf;rw [preL_row n f n i hi,show(i+1)*n - i*n=n by rw [Nat.succ_mul];omega]at this;exact this)
 have SK:=hid (fun W hf=>by have:=S k hk W hf;rw [preL_row n f n k hk,show(k+1)*n - k*n=n by rw [Nat.succ_mul];omega]at this;exact this)
 clear S
 have hri:=rowOf_len n f i
 have hrk:=rowOf_len n f k
 have HA:=hid (fun W hf=>Add_any _ _ (rowOf n f i) (rowOf n f k) c.toNat c.toNat_lt W (SI.out W hf) (SK.out W hf) (by rw [hri,hrk]) (by omega))
 rw [addP_row]at HA
 have P1:Hid ((preL n f (n*n)).take (i*n)++((List.range n).map (fun j=>f i j ^^^ mul8 c (f k j))++(preL n f (n*n)).drop (i*n+n))=preL n (putRow f i (fun j=>f i j ^^^ mul8 c (f k j))) (n*n)):=preL_put n f n i hi _
 have hrs:((List.range n).map (fun j=>f i j ^^^ mul8 c (f k j))).length=n:=by simp
 have HL:=hid hlen
 clear hlen SI SK hri hrk
 generalize preL n (putRow f i (fun j=>f i j ^^^ mul8 c (f k j))) (n*n)=z2 at *
 generalize (List.range n).map (fun j=>f i j ^^^ mul8 c (f k j))=q at *
 generalize preL n f (n*n)=z at *
 have HI:=hid hin
 clear hin
 go_enter Tryz.func257, Tryz.ntmps257
 go_wp2_with fail
 refine(RI.out _ _ hW ho HL.out).mono ?_
 rintro e w1 ⟨rfl,hf1⟩
 go_wp2_with fail
 refine(RK.out _ _ (hW.fr hf1) (ho.fr hf1) HL.out).mono ?_
 rintro e w3 ⟨rfl,hf3⟩
 have hf03:=hf1.trans hf3
 go_wp2_with fail
 refine(HA.out _ hf03).mono ?_
 rintro e w4 ⟨v4,rfl,hO4,hf4⟩
 have hf04:=hf03.trans hf4
 go_wp2_with fail
 refine(RI.out _ _ (hW.fr hf04) (ho.fr hf04) HL.out).mono ?_
 rintro e w5 ⟨rfl,hf5⟩
 have hf05:=hf04.trans hf5
 have hn0:0<n:=by omega
 go_wp2_with (refine wpList_copyMid rfl rfl (.tmp 23) (.tmp 24) 22 22 rfl Tryz.underlying22 g (i*n) n _ cap _ _ z q rfl rfl (ho.fr hf05) (hO4.fr hf5).see hrs hn0 (by rw [HL.out];exact HI.out) ?_)
 intro w6 ho6 hc6
 rw [P1.out]at ho6
 go_wp2_with fail
 go_end0
 exact⟨rfl,ho6,(hf05.chg _).trans hc6 fun _ _ h=>h⟩
set_option maxRecDepth 512
set_option maxRecDepth 100000
theorem MMay_any(R C:Nat)(a:Option Addr)(cap:Nat)(hR:R<=255)(hC:C<=255)(w:World) :
  Calls Tryz.prog 218 #[.agg #[N R,N C,.slice a (R*C) cap]] w fun e w'=>e=.returned (.bool true)/\Fr w w':=by
 have W1:=hid (within_any R hR)
 have W2:=hid (within_any C hC)
 have hw:=wrap_nmul R C 255 255 hR hC (by omega)
 generalize R*C=L at *
 have hb0:(w.alloc (.cells #[N R,N C,.slice a L cap] 175)).heap[w.heap.size]?=some (.cells #[N R,N C,.slice a L cap] 175 (0,0)):=heap_new _ _ _ rfl
 have hf0:Fr w (w.alloc (.cells #[N R,N C,.slice a L cap] 175)):=(Fr.refl w).alloc _
 generalize hW:w.alloc (.cells #[N R,N C,.slice a L cap] 175)=W at *
 have c0:W.cell? ⟨w.heap.size,0,none⟩=some (N R):=by rw [cell_of_heap hb0];rfl
 have c1:W.cell? ⟨w.heap.size,1,none⟩=some (N C):=by rw [cell_of_heap hb0];rfl
 have c2:W.cell? ⟨w.heap.size,2,none⟩=some (.slice a L cap):=by rw [cell_of_heap hb0];rfl
 have HW:=hid hW
 clear hW hb0
 go_enter Tryz.func218, Tryz.ntmps218
 go_upto_region 1 with fail
 rw [HW.out]
 go_wp2_with fail
 refine(W1.out _).mono ?_
 rintro e w1 ⟨rfl,rfl⟩
 go_wp2_with fail
 refine(W2.out _).mono ?_
 rintro e w1 ⟨rfl,rfl⟩
 go_wp2_with fail
 go_ret
 exact⟨rfl,hf0⟩
set_option maxRecDepth 512
structure PairAt (w:World) (B base n g1 cap1 g2 cap2:Nat) (A:Nat->Nat->UInt8):Prop where
 h:w.heap[B]?=some (.cells #[N n,N n,.slice (some ⟨g1,0,none⟩) (n*n) cap1,N n,N n,.slice (some ⟨g2,0,none⟩) (n*n) cap2] 307 (0,0))
 o1:Ow w base eB (.slice (some ⟨g1,0,none⟩) (n*n) cap1) (preL n A (n*n))
 o2:Ow w base eB (.slice (some ⟨g2,0,none⟩) (n*n) cap2) (preL n (fun r j=>A r (n+j)) (n*n))
 ne:g1≠g2
section
variable {w w':World} {B base n g1 cap1 g2 cap2:Nat} {A A':Nat->Nat->UInt8}
theorem PairAt.n1(h:PairAt w B base n g1 cap1 g2 cap2 A):B≠g1:=fun e=>h.o1.ne_cells h.h (by decide) (by rw [e];rfl)
theorem PairAt.n2(h:PairAt w B base n g1 cap1 g2 cap2 A):B≠g2:=fun e=>h.o2.ne_cells h.h (by decide) (by rw [e];rfl)
theorem PairAt.w1(h:PairAt w B base n g1 cap1 g2 cap2 A):WorkAt w B 0 n g1 cap1:=⟨by rw [cell_of_heap h.h];rfl,by rw [cell_of_heap h.h];rfl,by rw [cell_of_heap h.h];rfl⟩
theorem PairAt.w2(h:PairAt w B base n g1 cap1 g2 cap2 A):WorkAt w B 3 n g2 cap2:=⟨by rw [cell_of_heap h.h];rfl,by rw [cell_of_heap h.h];rfl,by rw [cell_of_heap h.h];rfl⟩
theorem PairAt.fr(h:PairAt w B base n g1 cap1 g2 cap2 A)(hf:Fr w w'):PairAt w' B base n g1 cap1 g2 cap2 A:=⟨hf.heap h.h,h.o1.fr hf,h.o2.fr hf,h.ne⟩
theorem PairAt.both{wm:World}(h:PairAt w B base n g1 cap1 g2 cap2 A)(hc1:Chg (fun k=>k=g1) w wm)(o1:Ow wm base eB (.slice (some ⟨g1,0,none⟩) (n*n) cap1) (preL n A' (n*n)))(hc2:Chg (fun k=>k=g2) wm w')(o2:Ow w' base eB (.slice (some ⟨g2,0,none⟩) (n*n) cap2) (preL n (fun r j=>A' r (n+j)) (n*n))) :
  PairAt w' B base n g1 cap1 g2 cap2 A'/\Chg (fun k=>k=g1\/k=g2) w w':=
 ⟨⟨hc2.heap (hc1.heap h.h h.n1) h.n2,o1.chg hc2 (fun k hk e=>by simp [Value.ownBlock]at hk;exact h.ne (hk.trans e)),o2,h.ne⟩,(hc1.mono fun _ _ h=>.inl h).trans hc2 fun _ _ h=>.inr h⟩
theorem PairAt.o2'{wm:World}(h:PairAt w B base n g1 cap1 g2 cap2 A)(hc1:Chg (fun k=>k=g1) w wm):Ow wm base eB (.slice (some ⟨g2,0,none⟩) (n*n) cap2) (preL n (fun r j=>A r (n+j)) (n*n)):=
 h.o2.chg hc1 (fun k hk e=>by simp [Value.ownBlock]at hk;exact h.ne (e.symm.trans hk.symm))
theorem PairAt.congr(h:PairAt w B base n g1 cap1 g2 cap2 A)(he:∀ r j,A r j=A' r j):PairAt w B base n g1 cap1 g2 cap2 A':=by
 have:A=A':=by funext r j;exact he r j
 rw [<- this];exact h
end
theorem elim_zero(S:Nat->Nat->UInt8)(i:Nat):elimF S i 0=S:=by funext r j;simp [elimF]
theorem elim_skip(S:Nat->Nat->UInt8)(i k:Nat)(h:k=i\/S k i=0):elimF S i (k+1)=elimF S i k:=by
 funext r j
 unfold elimF
 by_cases h1:r=k
 · subst h1
   rcases h with h | h
   · rw [if_neg (fun e=>e.2 h),if_neg (fun e=>e.2 h)]
   · rw [h,zero_mul8,UInt8.xor_zero];simp
 · by_cases h2:r<k/\r≠i
   · rw [if_pos ⟨by omega,h2.2⟩,if_pos h2]
   · rw [if_neg (fun e=>h2 ⟨by omega,e.2⟩),if_neg h2]
theorem elim_step(S:Nat->Nat->UInt8)(i k:Nat)(h:k≠i):putRow (elimF S i k) k (fun j=>elimF S i k k j ^^^ mul8 (S k i) (elimF S i k i j))=elimF S i (k+1):=by
 funext r j
 unfold putRow
 by_cases h1:r=k
 · subst h1
   rw [if_pos rfl]
   show elimF S i r r j ^^^ mul8 (S r i) (elimF S i r i j)=_
   unfold elimF
   rw [if_neg (by omega),if_neg (by simp),if_pos ⟨by omega,h⟩]
 · rw [if_neg h1]
   unfold elimF
   by_cases h2:r<k/\r≠i
   · rw [if_pos h2,if_pos ⟨by omega,h2.2⟩]
   · rw [if_neg h2,if_neg (fun e=>h2 ⟨by omega,e.2⟩)]
theorem inv8_u8(x:UInt8):B8 (inv1 x.toNat)=.int .u8 ((inv8 x).toNat:Int):=by
 have h:=inv1_lt x.toNat x.toNat_lt
 have e:(inv8 x).toNat=inv1 x.toNat:=by unfold inv8;exact ofNat_toNat8 _ h
 rw [e]
set_option maxRecDepth 100000
theorem clear_any(B base n i g1 cap1 g2 cap2:Nat)(A:Nat->Nat->UInt8)(w:World)(hP:PairAt w B base n g1 cap1 g2 cap2 A)(hi:i<n)(hn:n<=255)(hp:HasPiv A n i) :
  Calls Tryz.prog 223 #[.pointer (some ⟨B,0,none⟩),N i,N i] w fun e w'=>e=.returned (.bool true)/\PairAt w' B base n g1 cap1 g2 cap2 (stepF A n i)/\Chg (fun k=>k=g1\/k=g2) w w':=by
 obtain⟨hge,hlt,hne,hze⟩:=hp
 have HD:Hid (stepF A n i=elimF (scaledF A n i) i n):=rfl
 have HS:Hid (scaledF A n i=scaleF (swapF A i (piv A n i)) i (inv8 (A (piv A n i) i))):=rfl
 generalize piv A n i=p at *
 generalize stepF A n i=A9 at *
 have hni:(i:Int)<n:=by omega
 have hi0:(0:Int)<=i:=by omega
 go_enter Tryz.func223, Tryz.ntmps223
 go_wp2_with fail
 go_loopw [7] (fun qv wr=>∃ q:Nat,i<=q/\q<=p/\qv=N q/\Fr w wr) (fun qv _=>p - (intOf qv).toNat)
 case atStart=>exact⟨i,Nat.le_refl _,hge,rfl,Fr.refl w⟩
 case round=>
  obtain⟨q,hq1,hq2,rfl,hf⟩:=hrel
  have hPw:=hP.fr hf
  have HR:=hid (fun W (hf:Fr wr W)=>wrow_any B 0 n q g1 cap1 base _ W ((hPw.w1).fr hf) (hPw.o1.fr hf) (preL_len _ _ _) (by omega) hn)
  have k0:wr.cell? ⟨B,0,none⟩=some (N n):=hPw.w1.c0
  have hqn:(q:Int)<n:=by omega
  by_cases hqp:q<p
  · have hz:(A q i).toNat=0:=by rw [hze q hq1 hqp];rfl
    have HC:=hid (fun W (hf:Fr wr W)=>by have:=(pre_cell (hPw.o1.fr hf) q i (by omega) hi).1;rw [hz]at this;exact this)
    generalize hcp:cap1 - q*n=cp at *
    generalize hpn:q*n=pn at *
    go_wp2_with fail
    refine(HR.out _ (Fr.refl _)).mono ?_
    rintro e w1 ⟨rfl,hf1⟩
    have c1:=HC.out w1 hf1
    go_wp2_with fail
    go_roundw
    case rel=>exact⟨q+1,by omega,by omega,by go_num,hf.trans hf1⟩
    case measure=>simp [intOf];omega
  · obtain rfl:p=q:=by omega
    have hz:¬((A p i).toNat:Int)=0:=fun e=>hne (UInt8.toNat_inj.1 (by rw [UInt8.toNat_zero];omega))
    have hpn':¬(p:Int)=n:=by omega
    have HC:=hid (fun W (hf:Fr wr W)=>(pre_cell (hPw.o1.fr hf) p i hlt hi).1)
    have HW1:=hid (fun W (hf:Fr wr W)=>swap_any B 0 n i p g1 cap1 base A W ((hPw.w1).fr hf) (hPw.o1.fr hf) hPw.n1 hi hlt hn)
    clear hP
    generalize hcp:cap1 - p*n=cp at *
    generalize hpn:p*n=pn at *
    go_wp2_with fail
    refine(HR.out _ (Fr.refl _)).mono ?_
    rintro e w1 ⟨rfl,hf1⟩
    have c1:=HC.out w1 hf1
    have k1:=hf1.cell k0
    clear HC HR k0
    go_wp2_with fail
    refine(HW1.out _ hf1).mono ?_
    rintro e w2 ⟨rfl,ho2,hc2⟩
    have hP1:=hPw.fr hf1
    have HW2:=hid (swap_any B 3 n i p g2 cap2 base (fun r j=>A r (n+j)) w2 (hP1.w2.chg hc2 hP1.n1) (hP1.o2' hc2) hP1.n2 hi hlt hn)
    clear c1 k1 HW1 hz hpn'
    go_wp2_with fail
    refine(HW2.out).mono ?_
    rintro e w3 ⟨rfl,ho3,hc3⟩
    obtain⟨hP3,hc13⟩:=hP1.both (A':=swapF A i p) hc2 ho2 hc3 ho3
    have hc03:Chg (fun k=>k=g1\/k=g2) wr w3:=(hf1.chg _).trans hc13 fun _ _ h=>h
    have hsi:swapF A i p i i=A p i:=by unfold swapF;rw [if_pos rfl]
    clear HW2 ho2 hc2 ho3 hc3 hc13 hP1 hPw hf1
    have HR3:=hid (wrow_any B 0 n i g1 cap1 base _ w3 hP3.w1 hP3.o1 (preL_len _ _ _) hi hn)
    have HC3:=hid (fun W (hf:Fr w3 W)=>(pre_cell (hP3.o1.fr hf) i i hi hi).1)
    rw [hsi]at HC3
    have HI:=hid (Inv_any (A p i).toNat (A p i).toNat_lt)
    obtain⟨er,hiv⟩:=inv_tuple (A p i).toNat
    rw [hiv,inv8_u8]at HI
    have HSC:=hid (fun W (hf:Fr w3 W)=>scale_any B 0 n i g1 cap1 base (inv8 (A p i)) (swapF A i p) W (hP3.w1.fr hf) (hP3.o1.fr hf) hi hn)
    have HSC2:=hid (fun W Wm (hP:PairAt W B base n g1 cap1 g2 cap2 (swapF A i p)) (hc:Chg (fun k=>k=g1) W Wm)=>scale_any B 3 n i g2 cap2 base (inv8 (A p i)) (fun r j=>swapF A i p r (n+j)) Wm (hP.w2.chg hc hP.n1) (hP.o2' hc) hi hn)
    clear hiv hsi
    rw [<- HS.out]at HSC
    have HS2:Hid (scaleF (fun r j=>swapF A i p r (n+j)) i (inv8 (A p i))=fun r j=>scaledF A n i r (n+j)):=by show _=_;rw [HS.out];rfl
    rw [HS2.out]at HSC2
    generalize inv8 (A p i)=cc at *
    generalize scaledF A n i=S at *
    generalize swapF A i p=A2 at *
    generalize (A p i).toNat=ap at *
    generalize hcp3:cap1 - i*n=cp3 at *
    generalize hin3:i*n=in3 at *
    clear HS HS2 hne hze
    go_wp2_with fail
    refine(HR3.out).mono ?_
    rintro e w4 ⟨rfl,hf4⟩
    have c4:=HC3.out w4 hf4
    go_wp2_with fail
    refine(HI.out _).mono ?_
    rintro e w5 ⟨rfl,rfl⟩
    go_wp2_with fail
    refine(HSC.out _ hf4).mono ?_
    rintro e w5 ⟨rfl,ho5,hc5⟩
    have HSC3:=hid (HSC2.out w4 w5 (hP3.fr hf4) hc5)
    clear HSC HSC2 HR3 HC3 HI c4
    go_wp2_with fail
    refine(HSC3.out).mono ?_
    rintro e w6 ⟨rfl,ho6,hc6⟩
    obtain⟨hP6,hc46⟩:=(hP3.fr hf4).both (A':=S) hc5 ho5 hc6 ho6
    have hc06:Chg (fun k=>k=g1\/k=g2) wr w6:=(hc03.trans (hf4.chg _) fun _ _ h=>h).trans hc46 fun _ _ h=>h
    clear HSC3 ho5 hc5 ho6 hc6 hP3 hf4 hc46 hc03 hcp3 hin3 hcp hpn
    have k6:w6.cell? ⟨B,0,none⟩=some (N n):=hP6.w1.c0
    have hc6:Chg (fun k=>k=g1\/k=g2) w w6:=(hf.chg _).trans hc06 fun _ _ h=>h
    clear hc06 hf
    go_wp2_with fail
    go_loopw [84] (fun kv wr=>∃ k:Nat,k<=n/\kv=N k/\PairAt wr B base n g1 cap1 g2 cap2 (elimF S i k)/\Chg (fun k=>k=g1\/k=g2) w wr) (fun kv _=>n - (intOf kv).toNat)
    case atStart=>exact⟨0,Nat.zero_le _,rfl,hP6.congr fun r j=>by rw [elim_zero],hc6⟩
    case round=>
     clear hP6 hc6 k6
     obtain⟨k,hk,rfl,hP,hc⟩:=hrel
     by_cases hlt2:k<n
     · have hk':(k:Int)<n:=by omega
       have HR:=hid (wrow_any B 0 n k g1 cap1 base _ wr hP.w1 hP.o1 (preL_len _ _ _) hlt2 hn)
       have hSk:elimF S i k k i=S k i:=by unfold elimF;rw [if_neg (by omega)]
       have HC:=hid (fun W (hf:Fr wr W)=>(pre_cell (hP.o1.fr hf) k i hlt2 hi).1)
       rw [hSk]at HC
       by_cases hki:k=i\/S k i=0
       · have hP':=hP.congr (fun r j=>(congrFun (congrFun (elim_skip S i k hki) r) j).symm)
         have hki2:(k:Int)=i\/((S k i).toNat:Int)=0:=by
          rcases hki with h | h
          · exact .inl (by omega)
          · exact .inr (by rw [h];rfl)
         clear hki hSk hP
         generalize (S k i).toNat=d at *
         generalize cap1 - k*n=cp at *
         generalize k*n=kn at *
         go_wp2_with fail
         refine(HR.out).mono ?_
         rintro e w7 ⟨rfl,hf7⟩
         have c7:=HC.out w7 hf7
         clear HR HC
         by_cases hki3:(k:Int)=i
         · go_wp2_with fail
           go_roundw
           case rel=>exact⟨k+1,by omega,by go_num,hP'.fr hf7,hc.trans (hf7.chg _) fun _ _ h=>h⟩
           case measure=>simp [intOf];omega
         · have hd0:(d:Int)=0:=by rcases hki2 with h | h;exact absurd h hki3;exact h
           clear hki2
           go_wp2_with fail
           go_roundw
           case rel=>exact⟨k+1,by omega,by go_num,hP'.fr hf7,hc.trans (hf7.chg _) fun _ _ h=>h⟩
           case measure=>simp [intOf];omega
       · have hki2:¬(k:Int)=i:=fun e=>hki (.inl (by omega))
         have hki4:k≠i:=fun e=>hki (.inl e)
         have hd0:¬((S k i).toNat:Int)=0:=fun e=>hki (.inr (UInt8.toNat_inj.1 (by rw [UInt8.toNat_zero];omega)))
         have HA1:=hid (fun W (hf:Fr wr W)=>wadd_any B 0 n k i g1 cap1 base (S k i) (elimF S i k) W (hP.w1.fr hf) (hP.o1.fr hf) hlt2 hi hn)
         rw [elim_step S i k hki4]at HA1
         have HA2:=hid (fun W Wm (hP:PairAt W B base n g1 cap1 g2 cap2 (elimF S i k)) (hc:Chg (fun k=>k=g1) W Wm)=>wadd_any B 3 n k i g2 cap2 base (S k i) (fun r j=>elimF S i k r (n+j)) Wm (hP.w2.chg hc hP.n1) (hP.o2' hc) hlt2 hi hn)
         have HE2:Hid (putRow (fun r j=>elimF S i k r (n+j)) k (fun j=>elimF S i k k (n+j) ^^^ mul8 (S k i) (elimF S i k i (n+j)))=fun r j=>elimF S i (k+1) r (n+j)):=by
          show _=_
          rw [<- elim_step S i k hki4]
          rfl
         rw [HE2.out]at HA2
         clear hki hki4 hSk HE2
         generalize (S k i).toNat=d at *
         have hd1:¬d=0:=fun e=>hd0 (by omega)
         have hd2:((d:Int) != 0)=true:=by rw [bne,show((d:Int) == 0)=false from by simpa using hd1];rfl
         obtain⟨E2,hE2⟩:∃ E,E=elimF S i (k+1):=⟨_,rfl⟩
         rw [<- hE2]at HA1 HA2
         have HE:=hid hE2
         clear hE2
         generalize elimF S i k=E1 at *
         generalize cap1 - k*n=cp at *
         generalize k*n=kn at *
         go_wp2_with fail
         refine(HR.out).mono ?_
         rintro e w7 ⟨rfl,hf7⟩
         have c7:=HC.out w7 hf7
         clear HR HC
         go_wp2_with fail
         refine(HA1.out _ hf7).mono ?_
         rintro e w8 ⟨rfl,ho8,hc8⟩
         have HA3:=hid (HA2.out w7 w8 (hP.fr hf7) hc8)
         clear HA1 HA2 c7
         go_wp2_with fail
         refine(HA3.out).mono ?_
         rintro e w9 ⟨rfl,ho9,hc9⟩
         obtain⟨hP9,hc79⟩:=(hP.fr hf7).both (A':=E2) hc8 ho8 hc9 ho9
         clear HA3 ho8 hc8 ho9 hc9
         go_wp2_with fail
         go_roundw
         case rel=>exact⟨k+1,by omega,by go_num,HE.out ▸ hP9,(hc.trans (hf7.chg _) fun _ _ h=>h).trans hc79 fun _ _ h=>h⟩
         case measure=>simp [intOf];omega
     · obtain rfl:n=k:=by omega
       rw [<- HD.out]at hP
       have hnl:¬((n:Int)<n):=by omega
       go_wp2_with fail
       go_ret
       exact⟨rfl,hP,hc⟩
set_option maxRecDepth 512
theorem aug_left(M:List UInt8)(n:Nat)(hM:M.length=n*n):preL n (augF (cellF M n) n) (n*n)=M:=by
 rw [<- preL_cellF M n n hM]
 conv=>lhs;rw [preL_cellF M n n hM]
 refine preL_congr n _ _ _ fun t ht=>?_
 have hn:0<n:=by rcases Nat.eq_zero_or_pos n with e | e;(subst e;simp at ht);exact e
 unfold augF
 rw [if_pos (Nat.mod_lt t hn)]
theorem aug_right(M:List UInt8)(n:Nat):preL n (fun r j=>augF (cellF M n) n r (n+j)) (n*n)=idL n:=by
 unfold idL
 refine preL_congr n _ _ _ fun t ht=>?_
 unfold augF oneU
 rw [if_neg (by omega),show n+t % n - n=t % n by omega]
 by_cases e:t / n=t % n
 · rw [if_pos e,if_pos e.symm]
 · rw [if_neg e,if_neg (fun h=>e h.symm)]
set_option maxRecDepth 100000
theorem working_any(n:Nat)(M:List UInt8)(v:Value)(w:World)(hs:See w eB v M)(hM:M.length=n*n)(h1:1<=n)(hn:n<=255) :
  Calls Tryz.prog 222 #[.agg #[N n,N n,v]] w fun e w'=>∃ B g1 cap1 g2 cap2,e=.returned (.pointer (some ⟨B,0,none⟩))/\PairAt w' B w.heap.size n g1 cap1 g2 cap2 (augF (cellF M n) n)/\Fr w w'/\w.heap.size<=B:=by
 have hnn:n*n<=255*255:=Nat.mul_le_mul hn hn
 have h11:1*1<=n*n:=Nat.mul_le_mul h1 h1
 have HC:=hid (fun W (h:Fr w W)=>BClone_any v M W (hs.fr h) (by omega))
 have HM:=hid (fun W=>made1_any n h1 hn W)
 have HL:=hid (aug_left M n hM)
 have HR:=hid (aug_right M n)
 have hidl:(idL n).length=n*n:=preL_len _ _ _
 have HIl:=hid hidl
 have hM0:M≠[]:=by intro e;subst e;simp at hM;omega
 have hI0:idL n≠[]:=by intro e;rw [e]at hidl;simp at hidl;omega
 obtain⟨a,cap,hva,_⟩:=hs.shape
 rw [hM]at hva
 subst hva
 have HMl:=hid hM
 clear hM
 clear hidl
 generalize augF (cellF M n) n=A at *
 have hb0:(w.alloc (.cells #[N n,N n,.slice a (n*n) cap] 175)).heap[w.heap.size]?=some (.cells #[N n,N n,.slice a (n*n) cap] 175 (0,0)):=heap_new _ _ _ rfl
 have hf0:Fr w (w.alloc (.cells #[N n,N n,.slice a (n*n) cap] 175)):=(Fr.refl w).alloc _
 go_enter Tryz.func222, Tryz.ntmps222
 go_wp2_with fail
 refine(HC.out _ hf0).mono ?_
 rintro e w1 ⟨v1,rfl,hO1,hf1⟩
 obtain⟨g1,cap1,rfl,hg1,hg1s,_,_⟩:=hO1.atHead hM0
 have hb1:=hf1.heap hb0
 rw [HMl.out]at hO1
 have hf01:=hf0.trans hf1
 have hne : g1 ≠ w.heap.size := by have : w.heap.size + 1 ≤ g1 := by simpa using hg1
                                   omega
 have hst:=setCell_chg w1 ⟨w.heap.size,2,none⟩ (.slice (some ⟨g1,0,none⟩) (n*n) cap1)
 have hb2:=heap_setCell_own hb1 2 (.slice (some ⟨g1,0,none⟩) (n*n) cap1)
 have hz2:=frozen_of_heap hb1 2
 have hk2:w1.cell? ⟨w.heap.size,2,none⟩=some (.slice a (n*n) cap):=by rw [cell_of_heap hb1];rfl
 have hO2:=hO1.chg hst fun k hk e=>by simp [Value.ownBlock]at hk;have e:k=w.heap.size:=e;omega
 have hf02:Fr w (w1.setCell ⟨w.heap.size,2,none⟩ (.slice (some ⟨g1,0,none⟩) (n*n) cap1)):=set_below hf01 (Nat.le_refl _) hf01.size
 rw [HMl.out]
 go_upto_region 2 with fail
 have hO2b:=hO2.rebase (b:=w.heap.size) (by simp)
 have hlt2:=(hO2.lt g1 rfl).2
 generalize w1.setCell ⟨w.heap.size,2,none⟩ (.slice (some ⟨g1,0,none⟩) (n*n) cap1)=w2 at *
 have c0:w2.cell? ⟨w.heap.size,0,none⟩=some (N n):=by rw [cell_of_heap hb2];rfl
 have c1:w2.cell? ⟨w.heap.size,1,none⟩=some (N n):=by rw [cell_of_heap hb2];rfl
 have c2:w2.cell? ⟨w.heap.size,2,none⟩=some (.slice (some ⟨g1,0,none⟩) (n*n) cap1):=by rw [cell_of_heap hb2];rfl
 generalize hbb:w.heap.size=b at *
 clear hk2 hb0 hf0 hf1 hO1 hb1 hst hz2 hO2 hs hf01
 go_region_held3 (fun w' => w'.cell? ⟨b, 0, none⟩ = some (N n) ∧ w'.cell? ⟨b, 1, none⟩ = some (N n) ∧ w'.cell? ⟨b, 2, none⟩ = some (.slice (some ⟨g1, 0, none⟩) (n * n) cap1))
  (first | go_keep)
  ((first
   | (go_at_call 176; refine (HM.out _).mono ?_; rintro e w3 ⟨v3, rfl, hO3, hf3⟩; rw [idPre_all] at hO3; obtain ⟨g2, cap2, hv3, hg2, hg2s, _, _⟩ := hO3.atHead hI0; rw [HIl.out] at hv3; subst hv3; unfold idV; have d0 := hf3.cell c0; have d1 := hf3.cell c1; have d2 := hf3.cell c2)))
 have hf23:Fr w2 w3:=(Fr.refl w2).drew.trans hf3
 have hf03:=hf02.trans hf23
 have hO3a:=(hO2b.fr hf23).fr ((Fr.refl w3).alloc (.cells #[N n,N n,.slice (some ⟨g1,0,none⟩) (n*n) cap1,N n,N n,.slice (some ⟨g2,0,none⟩) (n*n) cap2] 307))
 have hO3b:=hO3.fr ((Fr.refl w3).alloc (.cells #[N n,N n,.slice (some ⟨g1,0,none⟩) (n*n) cap1,N n,N n,.slice (some ⟨g2,0,none⟩) (n*n) cap2] 307))
 have hsb:b<=w2.heap.size:=by rw [<- hbb];exact hf02.size
 have hsz3:w2.heap.size<=w3.heap.size:=hf23.size
 have hg2':w2.heap.size<=g2:=hg2
 go_wp2_with fail
 go_ret
 refine⟨w3.heap.size,g1,cap1,g2,cap2,rfl,⟨heap_new _ _ _ rfl,?_,?_,by omega⟩,hf03.alloc _,by omega⟩
 · rw [HL.out,hbb];exact hO3a
 · rw [HR.out,hbb];exact hO3b.rebase hsb
theorem Inverse_any(n:Nat)(M:List UInt8)(v:Value)(w:World)(hs:See w eB v M)(hM:M.length=n*n)(h1:1<=n)(hn:n<=255)(hG:Goes M n) :
  Calls Tryz.prog 185 #[.agg #[N n,N n,v]] w fun e w'=>∃ u,e=.returned (.tuple #[.agg #[N n,N n,u],.int .i64 0])/\Ow w' w.heap.size eB u (invL M n)/\Fr w w':=by
 obtain⟨a,cap,hva,_⟩:=hs.shape
 rw [hM]at hva
 subst hva
 have HM:=hid (MMay_any n n a cap hn hn)
 have HWk:=hid (fun W (h:Fr w W)=>working_any n M _ W (hs.fr h) hM h1 hn)
 have HI:Hid (invL M n=preL n (fun r j=>stG (augF (cellF M n) n) n n r (n+j)) (n*n)):=rfl
 have HGo:Hid (∀ i,i<n->HasPiv (stG (augF (cellF M n) n) n i) n i):=hG
 have HS:Hid (∀ i,stepF (stG (augF (cellF M n) n) n i) n i=stG (augF (cellF M n) n) n (i+1)):=fun _=>rfl
 have HZ:Hid (stG (augF (cellF M n) n) n 0=augF (cellF M n) n):=rfl
 rw [<- HZ.out]at HWk
 generalize stG (augF (cellF M n) n) n=St at *
 generalize invL M n=IV at *
 clear HZ hG
 generalize hnn:n*n=nn at *
 have hb0:((w.alloc (.cells #[N n,N n,.slice a nn cap] 175)).alloc (.cells #[.int .i64 0,.int .i64 0,.slice none 0 0] 175)).heap[w.heap.size]?=some (.cells #[N n,N n,.slice a nn cap] 175 (0,0)):=by
  rw [heap_old _ _ _ (by simp),heap_new _ _ _ rfl]
 have hb1:((w.alloc (.cells #[N n,N n,.slice a nn cap] 175)).alloc (.cells #[.int .i64 0,.int .i64 0,.slice none 0 0] 175)).heap[w.heap.size+1]?=some (.cells #[.int .i64 0,.int .i64 0,.slice none 0 0] 175 (0,0)):=heap_new _ _ _ (by simp)
 have hf0:Fr w ((w.alloc (.cells #[N n,N n,.slice a nn cap] 175)).alloc (.cells #[.int .i64 0,.int .i64 0,.slice none 0 0] 175)):=((Fr.refl w).alloc _).alloc _
 have hs0:((w.alloc (.cells #[N n,N n,.slice a nn cap] 175)).alloc (.cells #[.int .i64 0,.int .i64 0,.slice none 0 0] 175)).heap.size=w.heap.size+2:=by simp
 go_enter Tryz.func185, Tryz.ntmps185
 go_upto_region 1 with fail
 generalize (w.alloc (.cells #[N n,N n,.slice a nn cap] 175)).alloc (.cells #[.int .i64 0,.int .i64 0,.slice none 0 0] 175)=w0 at *
 have k0:w0.cell? ⟨w.heap.size,0,none⟩=some (N n):=by rw [cell_of_heap hb0];rfl
 have k1:w0.cell? ⟨w.heap.size,1,none⟩=some (N n):=by rw [cell_of_heap hb0];rfl
 have k2:w0.cell? ⟨w.heap.size,2,none⟩=some (.slice a nn cap):=by rw [cell_of_heap hb0];rfl
 generalize hb:w.heap.size=b at *
 go_wp2_with fail
 refine(HM.out _).mono ?_
 rintro e w1 ⟨rfl,hf1⟩
 have c0:=hf1.cell k0
 have c1:=hf1.cell k1
 have c2:=hf1.cell k2
 have hf01:=hf0.trans hf1
 have hr1:=hf1.heap hb1
 clear k0 k1 k2 hf0 hb0 hb1
 go_wp2_with fail
 refine(HWk.out _ hf01).mono ?_
 rintro e w2 ⟨B,g1,cap1,g2,cap2,rfl,hP,hf2,hB⟩
 have k0:=hf2.cell c0
 have hr2:=hf2.heap hr1
 have hf02:=hf01.trans hf2
 have hs1:b+2<=w1.heap.size:=by have:=hf1.size;omega
 clear c0 c1 c2 hr1 hf1 hf01 HM HWk hf2
 go_wp2_with fail
 go_loopw [21] (fun iv wr=>∃ i:Nat,i<=n/\iv=N i/\PairAt wr B w1.heap.size n g1 cap1 g2 cap2 (St i)/\wr.heap[b+1]?=some (.cells #[.int .i64 0,.int .i64 0,.slice none 0 0] 175 (0,0))/\Fr w wr) (fun iv _=>n - (intOf iv).toNat)
 case atStart=>exact⟨0,Nat.zero_le _,rfl,hP,hr2,hf02⟩
 case round=>
  clear hP hr2 hf02 k0
  obtain⟨i,hi,rfl,hP,hr,hf⟩:=hrel
  by_cases hlt:i<n
  · have hlt':(i:Int)<n:=by omega
    have HC:=hid (clear_any B w1.heap.size n i g1 cap1 g2 cap2 (St i) wr hP hlt hn (HGo.out i hlt))
    rw [HS.out]at HC
    go_wp2_with fail
    refine(HC.out).mono ?_
    rintro e w3 ⟨rfl,hP3,hc3⟩
    have hg1:=(hP.o1.lt g1 rfl).1
    have hg2:=(hP.o2.lt g2 rfl).1
    have hr3:=hc3.heap hr (fun e=>by omega)
    have hf3:Fr w w3:=Chg.below hf hc3 hf.size (fun k e=>by omega)
    clear hP hr hf hc3 HC
    go_wp2_with fail
    go_roundw
    case rel=>exact⟨i+1,by omega,by go_num,hP3,hr3,hf3⟩
    case measure=>simp [intOf];omega
  · obtain rfl:n=i:=by omega
    have hnl:¬((n:Int)<n):=by omega
    have k0:=hP.w2.c0
    have k1:=hP.w2.c1
    have k2:=hP.w2.c2
    have ho:=hP.o2
    rw [hnn]at k2 ho
    rw [<- HI.out]at ho
    have hinf:(Tryz.prog.info? 175).map (·.size)=some 3:=by kernel_rfl
    have hone:(#[N n,N n,.slice (some ⟨g2,0,none⟩) nn cap2]:Array Value).all (·.oneCell')=true:=by
     rw [List.all_toArray];rfl
    have q0:=cell_setRow_same wr (b+1) 0 _ #[N n,N n,.slice (some ⟨g2,0,none⟩) nn cap2] _ _ hr
    have q1:=cell_setRow_same wr (b+1) 1 _ #[N n,N n,.slice (some ⟨g2,0,none⟩) nn cap2] _ _ hr
    have q2:=cell_setRow_same wr (b+1) 2 _ #[N n,N n,.slice (some ⟨g2,0,none⟩) nn cap2] _ _ hr
    have hset:Ow (wr.setRow (b+1) #[N n,N n,.slice (some ⟨g2,0,none⟩) nn cap2]) b eB (.slice (some ⟨g2,0,none⟩) nn cap2) IV:=(ho.chg (setRow_chg wr (b+1) _) fun q hq=>by have:=(ho.lt q hq).1;show ¬q=b+1;omega).rebase (by omega)
    have hfin:Fr w (wr.setRow (b+1) #[N n,N n,.slice (some ⟨g2,0,none⟩) nn cap2]):=Chg.below hf (setRow_chg wr (b+1) _) hf.size (fun q hq=>by rw [hq];omega)
    clear hP HI HS HGo ho
    go_wp2_with (refine wpList_store_row rfl 175 (.tmp 2) (.tmp 35) rfl (b+1) #[N n,N n,.slice (some ⟨g2,0,none⟩) nn cap2] rfl rfl 175 _ hr hinf rfl hone ?_)
    exact bodyPost_ret (v:=.tuple #[.agg #[N n,N n,.slice (some ⟨g2,0,none⟩) nn cap2],.int .i64 0]) (by simp [results,Tryz.results185,go_sem, *]) rfl ⟨_,rfl,hset,hfin⟩
set_option maxRecDepth 512
set_option maxRecDepth 100000
theorem RMMay_any(R C:Nat)(a:Option Addr)(cap:Nat)(hR:R<=255)(hC:C<=255)(w:World) :
  Calls Tryz.prog 196 #[.agg #[N R,N C,.slice a (R*C) cap]] w fun e w'=>e=.returned (.bool true)/\Fr w w':=by
 have hw:=wrap_nmul R C 255 255 hR hC (by omega)
 generalize R*C=L at *
 have h1:(0:Int)<=R:=by omega
 have h2:(R:Int)<=255:=by omega
 have h3:(0:Int)<=C:=by omega
 have h4:(C:Int)<=255:=by omega
 go_enter Tryz.func196, Tryz.ntmps196
 go_wp2_with fail
 go_ret
 exact⟨rfl,(Fr.refl w).alloc _⟩
theorem RIdentity_any(n:Nat)(hk:1<=n)(hn:n<=255)(w:World) :
  Calls Tryz.prog 140 #[N n] w fun e w'=>∃ v,e=.returned (.tuple #[idV n v,.int .i64 0])/\Ow w' w.heap.size eB v (idL n)/\Fr w w':=by
 have hnn:n*n<=255*255:=Nat.mul_le_mul hn hn
 have hw:=wrap_nmul n n 255 255 hn hn (by omega)
 have HLen:=hid (fun t=>preL_len n oneU t)
 have HAt:Hid (∀ t,preL n oneU (t+1)=preL n oneU t++[oneU (t / n) (t % n)]):=fun t=>by unfold preL;rw [List.range_succ,List.map_append];rfl
 have HZ:Hid (preL n oneU 0=[]):=rfl
 have HA:Hid (idL n=preL n oneU (n*n)):=rfl
 have hn255:¬(255:Int)<n:=by omega
 have hn0:¬(n:Int)<0:=by omega
 have hb0:((w.alloc (.cells #[.int .i64 0,.int .i64 0,.slice none 0 0] 175)).alloc (.cells #[N n,N n,.slice none 0 0] 175)).heap[w.heap.size]?=some (.cells #[.int .i64 0,.int .i64 0,.slice none 0 0] 175 (0,0)):=by
  rw [heap_old _ _ _ (by simp),heap_new _ _ _ rfl]
 have hb1:((w.alloc (.cells #[.int .i64 0,.int .i64 0,.slice none 0 0] 175)).alloc (.cells #[N n,N n,.slice none 0 0] 175)).heap[w.heap.size+1]?=some (.cells #[N n,N n,.slice none 0 0] 175 (0,0)):=heap_new _ _ _ (by simp)
 have hf0:Fr w ((w.alloc (.cells #[.int .i64 0,.int .i64 0,.slice none 0 0] 175)).alloc (.cells #[N n,N n,.slice none 0 0] 175)):=((Fr.refl w).alloc _).alloc _
 have hs0:((w.alloc (.cells #[.int .i64 0,.int .i64 0,.slice none 0 0] 175)).alloc (.cells #[N n,N n,.slice none 0 0] 175)).heap.size=w.heap.size+2:=by simp
 generalize hnm:n*n=nn at *
 go_enter Tryz.func140, Tryz.ntmps140
 go_upto_region 5 with fail
 generalize (w.alloc (.cells #[.int .i64 0,.int .i64 0,.slice none 0 0] 175)).alloc (.cells #[N n,N n,.slice none 0 0] 175)=w0 at *
 generalize hg:w.heap.size=g at *
 go_loopw [5] (fun iv wr=>∃ (i:Nat) (sv:Value),i<=nn/\iv=N i/\wr.heap[g]?=some (.cells #[.int .i64 0,.int .i64 0,.slice none 0 0] 175 (0,0))/\wr.heap[g+1]?=some (.cells #[N n,N n,sv] 175 (0,0))/\Ow wr (g+2) eB sv (preL n oneU i)/\Fr w wr/\g+2<=wr.heap.size) (fun iv _=>nn - (intOf iv).toNat)
 case atStart=>exact⟨0,_,Nat.zero_le _,rfl,hb0,hb1,by rw [HZ.out];exact Ow.nil,hf0,by omega⟩
 case round=>
  clear hb0 hb1 hf0 hs0
  obtain⟨i,sv,hi,rfl,h0,h1,hown,hf,hs⟩:=hrel
  by_cases hlt:i<nn
  · have hlt':(i:Int)<nn:=by omega
    have hdiv:(i:Int).tdiv n=((i / n:Nat):Int):=by rw [Int.tdiv_eq_ediv_of_nonneg (by omega)];rfl
    have hmod:(i:Int).tmod n=((i % n:Nat):Int):=by rw [Int.tmod_eq_emod_of_nonneg (by omega)];rfl
    have hnz:¬(n:Int)=0:=by omega
    have hwd:IntKind.i64.wrap ((i / n:Nat):Int)=((i / n:Nat):Int):=wrap_i64 _ (by have:=Nat.div_le_self i n;omega)
    have hwm:IntKind.i64.wrap ((i % n:Nat):Int)=((i % n:Nat):Int):=wrap_i64 _ (by have:=Nat.mod_lt i hk;omega)
    have HStep:=hid (HAt.out i)
    have hPl:=HLen.out i
    have HC1:Hid ((preL n oneU i).length+1<=2147483648):=by show _<=_;omega
    by_cases hd:i / n=i % n
    · have HO:Hid (oneU (i / n) (i % n)=1):=by show _=_;unfold oneU;rw [if_pos hd]
      rw [HO.out]at HStep
      have hdi:((i / n:Nat):Int)=((i % n:Nat):Int):=by rw [hd]
      obtain⟨P2,hP2⟩:∃ q,q=preL n oneU (i+1):=⟨_,rfl⟩
      rw [<- hP2]at HStep
      have HP2:=hid hP2
      clear hP2 hd HO hPl
      generalize i / n=qn at *
      generalize i % n=rn at *
      have e2:wr.cell? ⟨g+1,2,none⟩=some sv:=by rw [cell_of_heap h1];rfl
      have hneq:∀ q,sv.ownBlock=some q->g+2<=q:=fun q hq=>(hown.lt q hq).1
      go_wp2_with fail
      go_quiet (fail)
      go_wp2_with (at_builtin;refine wpList_app1 eB rfl (.tmp 32) (.tmp 34) 22 rfl Tryz.underlying22 (g+2) rfl (hown.fr ((Fr.refl wr).drewN _)) [1] _ _ _ rfl rfl rfl HC1.out hs ?_)
      intro v' w4 hap
      have own4:=hap.own
      rw [<- HStep.out]at own4
      obtain⟨va,vc,hv'⟩:=own4.shape'
      subst hv'
      have hownD:=hown.fr ((Fr.refl wr).drewN 1)
      have k0:=hap.chg'.heap (show _=_ from h0) (fun e=>by have:=hneq _ e;omega)
      have k1:=hap.chg'.heap (show _=_ from h1) (fun e=>by have:=hneq _ e;omega)
      have hf4:Fr w w4:=hap.below (hown.fr ((Fr.refl wr).drewN _)) (hf.drewN _) (by rw [hg];omega) (hf.drewN _).size
      have hs4:g+2<=w4.heap.size:=Nat.le_trans hs hap.size
      have e3:w4.cell? ⟨g+1,2,none⟩=some sv:=by rw [cell_of_heap k1];rfl
      have e4:w4.frozen? ⟨g+1,2,none⟩=false:=frozen_of_heap k1 2
      clear hap hown hownD
      go_wp2_with fail
      go_roundw
      case rel=>exact⟨i+1,_,by omega,by go_num,by rw [Below.heap_setCell _ _ _ _ (by simp)];exact k0,heap_setCell_own k1 2 _,by rw [<- HP2.out];exact own4.chg (setCell_chg w4 ⟨g+1,2,none⟩ _) (fun k hk e=>(own4.ne_cells k1 (by decide)) (by rw [hk,show k=g+1 from e])),Chg.below hf4 (setCell_chg w4 ⟨g+1,2,none⟩ _) hf4.size (fun i e=>by have e:i=g+1:=e;rw [hg];omega),by simp [World.setCell];omega⟩
      case measure=>simp [intOf];omega
    · have HO:Hid (oneU (i / n) (i % n)=0):=by show _=_;unfold oneU;rw [if_neg hd]
      rw [HO.out]at HStep
      have hdi:¬((i / n:Nat):Int)=((i % n:Nat):Int):=fun e=>hd (by omega)
      obtain⟨P2,hP2⟩:∃ q,q=preL n oneU (i+1):=⟨_,rfl⟩
      rw [<- hP2]at HStep
      have HP2:=hid hP2
      clear hP2 hd HO hPl
      generalize i / n=qn at *
      generalize i % n=rn at *
      have e2:wr.cell? ⟨g+1,2,none⟩=some sv:=by rw [cell_of_heap h1];rfl
      have hneq:∀ q,sv.ownBlock=some q->g+2<=q:=fun q hq=>(hown.lt q hq).1
      go_wp2_with fail
      go_quiet (fail)
      go_wp2_with (at_builtin;refine wpList_app1 eB rfl (.tmp 32) (.tmp 34) 22 rfl Tryz.underlying22 (g+2) rfl (hown.fr ((Fr.refl wr).drewN _)) [0] _ _ _ rfl rfl rfl HC1.out hs ?_)
      intro v' w4 hap
      have own4:=hap.own
      rw [<- HStep.out]at own4
      obtain⟨va,vc,hv'⟩:=own4.shape'
      subst hv'
      have hownD:=hown.fr ((Fr.refl wr).drewN 1)
      have k0:=hap.chg'.heap (show _=_ from h0) (fun e=>by have:=hneq _ e;omega)
      have k1:=hap.chg'.heap (show _=_ from h1) (fun e=>by have:=hneq _ e;omega)
      have hf4:Fr w w4:=hap.below (hown.fr ((Fr.refl wr).drewN _)) (hf.drewN _) (by rw [hg];omega) (hf.drewN _).size
      have hs4:g+2<=w4.heap.size:=Nat.le_trans hs hap.size
      have e3:w4.cell? ⟨g+1,2,none⟩=some sv:=by rw [cell_of_heap k1];rfl
      have e4:w4.frozen? ⟨g+1,2,none⟩=false:=frozen_of_heap k1 2
      clear hap hown hownD
      go_wp2_with fail
      go_roundw
      case rel=>exact⟨i+1,_,by omega,by go_num,by rw [Below.heap_setCell _ _ _ _ (by simp)];exact k0,heap_setCell_own k1 2 _,by rw [<- HP2.out];exact own4.chg (setCell_chg w4 ⟨g+1,2,none⟩ _) (fun k hk e=>(own4.ne_cells k1 (by decide)) (by rw [hk,show k=g+1 from e])),Chg.below hf4 (setCell_chg w4 ⟨g+1,2,none⟩ _) hf4.size (fun i e=>by have e:i=g+1:=e;rw [hg];omega),by simp [World.setCell];omega⟩
      case measure=>simp [intOf];omega
  · obtain rfl:nn=i:=by omega
    rw [<- HA.out]at hown
    have hnl:¬((nn:Int)<nn):=by omega
    have hinf:(Tryz.prog.info? 175).map (·.size)=some 3:=by kernel_rfl
    have hone:(#[N n,N n,sv]:Array Value).all (·.oneCell')=true:=by
     obtain⟨va,vc,hv⟩:=hown.shape'
     subst hv
     rw [List.all_toArray]
     rfl
    have hneq:∀ q,sv.ownBlock=some q->g+2<=q:=fun q hq=>(hown.lt q hq).1
    have hset:Ow (wr.setRow g #[N n,N n,sv]) (g+2) eB sv (idL n):=hown.chg (setRow_chg wr g _) fun q hq=>by have:=hneq q hq;show ¬q=g;omega
    have hfin:Fr w (wr.setRow g #[N n,N n,sv]):=Chg.below hf (setRow_chg wr g _) hf.size (fun q hq=>by rw [hq];omega)
    have z0:=cell_setRow_same wr g 0 _ #[N n,N n,sv] _ _ h0
    have z1:=cell_setRow_same wr g 1 _ #[N n,N n,sv] _ _ h0
    have z2:=cell_setRow_same wr g 2 _ #[N n,N n,sv] _ _ h0
    clear hown HAt HA HLen
    go_wp2_with (first | (refine wpList_load_row rfl 175 (.tmp 4) rfl (g+1) rfl 175 #[N n,N n,sv] (0,0) _ h1 Tryz.underlying175 rfl hinf ?_) | (refine wpList_store_row rfl 175 (.tmp 2) (.tmp 37) rfl g #[N n,N n,sv] rfl rfl 175 _ h0 hinf rfl hone ?_))
    exact bodyPost_ret (v:=.tuple #[.agg #[N n,N n,sv],.int .i64 0]) (by simp [results,Tryz.results140,go_sem, *]) rfl ⟨_,rfl,hset.rebase (by omega),hfin⟩
set_option maxRecDepth 512
end Go.Proofs.YtijghcbpfcjjnaaGreatDoor
