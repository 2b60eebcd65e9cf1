/- Parts of the proof of ArchOne: T1 T2. -/
import Derived.Test.YtdagmoonnbnceaaGreatDoorM19
import Derived.Lib.SmallJoins
import Derived.Test.YtdagmoonnbnceaaGreatDoorM13
import Derived.Test.YtdagmoonnbnceaaGreatDoorM06
import Derived.Test.YtdagmoonnbnceaaGreatDoorM04
set_option linter.unusedVariables false
set_option linter.unusedSectionVars false
set_option linter.unusedSimpArgs false
set_option maxHeartbeats 8000000
set_option maxRecDepth 100000
namespace Go.Proofs.YtdagmoonnbnceaaGreatDoor
open Go.RowKit Go.Fk
theorem wrap_mul(a b m:Nat)(ha:a*b<=m)(hm:m<9223372036854775808):IntKind.i64.wrap ((a:Int)*(b:Int))=((a*b:Nat):Int):=by
 rw [Int.natCast_mul];exact IntWalk.i64_in _ (by rw [<- Int.natCast_mul];omega)
abbrev shV(k m c:Nat):Value:=.agg #[N k,N m,N c]
theorem sdata_any(k m c:Nat)(hk:k<=255)(hc:c<=4096)(w:World):Calls Tryz.prog 59 #[shV k m c] w fun e w'=>e=.returned (N (k*c))/\Fr w w':=by
 have h1:k*c<=255*4096:=Nat.mul_le_mul hk hc
 have hw:=wrap_mul k c _ h1 (by omega)
 generalize k*c=z at *
 go_enter Tryz.func59, Tryz.ntmps59
 go_wp2_with fail
 go_ret
 exact⟨rfl,(Fr.refl w).alloc _⟩
theorem slaid_any(k m c:Nat)(hk:k+m<=255)(hc:c<=4096)(w:World):Calls Tryz.prog 88 #[shV k m c] w fun e w'=>e=.returned (N ((k+m)*(c+4)))/\Fr w w':=by
 have h1:(k+m)*(c+4)<=255*4100:=Nat.mul_le_mul hk (by omega)
 have hw:=wrap_mul (k+m) (c+4) _ h1 (by omega)
 have k1:(0:Int)<=k:=by omega
 have k2:(k:Int)<=255:=by omega
 have k3:(0:Int)<=m:=by omega
 have k4:(m:Int)<=255:=by omega
 have k5:(c:Int)<=4096:=by omega
 have k6:(0:Int)<=c:=by omega
 rw [show((k+m:Nat):Int)=(k:Int)+m by omega,show((c+4:Nat):Int)=(c:Int)+4 by omega]at hw
 generalize (k+m)*(c+4)=z at *
 go_enter Tryz.func88, Tryz.ntmps88
 go_wp2_with fail
 go_ret
 exact⟨rfl,(Fr.refl w).alloc _⟩
def strN(k c n:Nat):Nat:=(n+k*c - 1) / (k*c)
theorem sstripes_any(k m c n:Nat)(hk0:1<=k)(hc0:1<=c)(hk:k<=255)(hc:c<=4096)(hn:n<=8388608)(w:World):Calls Tryz.prog 58 #[shV k m c,N n] w fun e w'=>e=.returned (N (strN k c n))/\Fr w w':=by
  have h1:k*c<=255*4096:=Nat.mul_le_mul hk hc
  have h2:1*1<=k*c:=Nat.mul_le_mul hk0 hc0
  have HD:=hid (sdata_any k m c hk hc)
  unfold strN
  generalize k*c=z at *
  have hz1:(1:Int)<=z:=by omega
  have hw1:IntKind.i64.wrap ((n:Int)+z)=(n:Int)+z:=IntWalk.i64_in _ (by omega)
  have hw2:IntKind.i64.wrap ((n:Int)+z - 1)=(n:Int)+z - 1:=IntWalk.i64_in _ (by omega)
  have hdv:((n:Int)+z - 1).tdiv z=(((n+z - 1) / z:Nat):Int):=by
    rw [show(n:Int)+z - 1=((n+z - 1:Nat):Int) by omega,Int.tdiv_eq_ediv_of_nonneg (by omega)];simp
  have hq:(n+z - 1) / z<=8388608+255*4096:=Nat.le_trans (Nat.div_le_self _ _) (by omega)
  generalize (n+z - 1) / z=q at *
  have hw3:IntKind.i64.wrap (q:Int)=q:=IntWalk.i64_in _ (by omega)
  have hz0:¬(z:Int)=0:=by omega
  have hz2:¬z=0:=by omega
  have hz3:z≠0:=hz2
  go_enter Tryz.func58, Tryz.ntmps58
  go_wp2_with fail
  generalize hW:w.alloc (.cells #[N k,N m,N c] 101)=W
  have hf0:Fr w W:=by rw [<- hW];exact(Fr.refl w).alloc _
  have hc0:W.cell? ⟨w.heap.size,0,none⟩=some (N k)/\W.cell? ⟨w.heap.size,1,none⟩=some (N m)/\W.cell? ⟨w.heap.size,2,none⟩=some (N c):=by
    rw [<- hW];refine⟨?_,?_,?_⟩ <;> rw [World.cell?_alloc_at _ _ _ _ rfl] <;> rfl
  obtain⟨a0,a1,a2⟩:=hc0
  have HF:=hid hf0
  clear hW hf0
  go_region_held3 (fun w' => w'.cell? ⟨w.heap.size, 0, none⟩ = some (N k) ∧ w'.cell? ⟨w.heap.size, 1, none⟩ = some (N m) ∧ w'.cell? ⟨w.heap.size, 2, none⟩ = some (N c))
    (first | go_keep)
    ((first
      | (go_at_call 59; refine (HD.out _).mono ?_; rintro e w1 ⟨rfl, hf1⟩; have b0 := hf1.cell a0; have b1 := hf1.cell a1; have b2 := hf1.cell a2)
      | (go_at_call 59; refine (HD.out _).mono ?_; rintro e w2 ⟨rfl, hf2⟩; have d0 := hf2.cell b0; have d1 := hf2.cell b1; have d2 := hf2.cell b2)))
  go_wp2_with fail
  go_ret
  exact⟨rfl,((HF.out.trans (Fr.drew (Fr.refl _))).trans hf1).trans hf2⟩
theorem smay_any(k m c n:Nat)(hk0:1<=k)(hkm:k+m<=255)(hc0:1<=c)(hc:c<=4096)(w:World):Calls Tryz.prog 87 #[shV k m c,N n] w fun e w'=>e=.returned (.bool (decide (n<=8388608)))/\Fr w w':=by
 have k1:(1:Int)<=k:=by omega
 have k2:(0:Int)<=m:=by omega
 have k3:(k:Int)<=255:=by omega
 have k4:(m:Int)<=255 - k:=by omega
 have k5:(1:Int)<=c:=by omega
 have k6:(c:Int)<=4096:=by omega
 have k7:(0:Int)<=n:=by omega
 have hw:IntKind.i64.wrap (255 - (k:Int))=255 - k:=IntWalk.i64_in _ (by omega)
 by_cases h:n<=8388608
 · rw [decide_eq_true h]
   have h8:(n:Int)<=8388608:=by omega
   go_enter Tryz.func87, Tryz.ntmps87
   go_wp2_with fail
   go_ret
   exact⟨rfl,(Fr.refl w).alloc _⟩
 · rw [decide_eq_false h]
   have h8:¬(n:Int)<=8388608:=by omega
   go_enter Tryz.func87, Tryz.ntmps87
   go_wp2_with fail
   go_ret
   exact⟨rfl,(Fr.refl w).alloc _⟩
def sizeV(k m c n:Nat):Value:=
 if n<=8388608 then(if strN k c n*((k+m)*(c+4))<=16777216 then .tuple #[N (strN k c n*((k+m)*(c+4))),.int .i64 0]else .tuple #[.int .i64 0,.int .i64 6])else .tuple #[.int .i64 0,.int .i64 13]
theorem sizeV_cases(k m c n:Nat):(n<=8388608->(strN k c n*((k+m)*(c+4))<=16777216->sizeV k m c n=.tuple #[N (strN k c n*((k+m)*(c+4))),.int .i64 0])/\(¬strN k c n*((k+m)*(c+4))<=16777216->sizeV k m c n=.tuple #[.int .i64 0,.int .i64 6]))/\(¬n<=8388608->sizeV k m c n=.tuple #[.int .i64 0,.int .i64 13]):=by
 unfold sizeV
 refine⟨fun h=>⟨fun h2=>by rw [if_pos h,if_pos h2],fun h2=>by rw [if_pos h,if_neg h2]⟩,fun h=>by rw [if_neg h]⟩
theorem strN_le(k c n:Nat)(hk:k<=255)(hc:c<=4096)(hn:n<=8388608):strN k c n<=9433088:=by
 have h1:k*c<=255*4096:=Nat.mul_le_mul hk hc
 unfold strN
 exact Nat.le_trans (Nat.div_le_self _ _) (by omega)
theorem Size_any(k m c n:Nat)(hk0:1<=k)(hkm:k+m<=255)(hc0:1<=c)(hc:c<=4096)(w:World):Calls Tryz.prog 57 #[N k,N m,N c,N n] w fun e w'=>e=.returned (sizeV k m c n)/\Fr w w':=by
 have HM:=hid (smay_any k m c n hk0 hkm hc0 hc)
 have HR:=hid (sizeV_cases k m c n)
 generalize sizeV k m c n=R at *
 have h3:=heap_new w (.cells #[.int .i64 0,.int .i64 0,.int .i64 0] 101) _ rfl
 have hinf:(Tryz.prog.info? 101).map (·.size)=some 3:=by kernel_rfl
 have hone:(#[N k,N m,N c]:Array Value).all (·.oneCell')=true:=by
  rw [List.all_toArray];rfl
 have hset:=setRow_row _ _ #[N k,N m,N c] _ _ h3
 have hf4:Fr w ((w.alloc (.cells #[.int .i64 0,.int .i64 0,.int .i64 0] 101)).setRow w.heap.size #[N k,N m,N c]):=Chg.below ((Fr.refl w).alloc _) (setRow_chg _ _ _) (by simp) (fun q hq=>by rw [hq];exact Nat.le_refl _)
 go_enter Tryz.func57, Tryz.ntmps57
 go_wp2_with (first | (refine wpList_store_row rfl 101 (.tmp 10) (.tmp 15) rfl w.heap.size #[N k,N m,N c] rfl rfl 101 _ h3 hinf rfl hone ?_) | (refine wpList_load_row rfl 101 (.tmp 10) rfl w.heap.size rfl 101 #[N k,N m,N c] (0,0) _ hset Tryz.underlying101 rfl hinf ?_))
 refine(HM.out _).mono ?_
 rintro e w1 ⟨rfl,hf1⟩
 have hB1:=hf1.heap hset
 have hf01:=hf4.trans hf1
 clear hset hone h3 hf4
 generalize hW:(w.alloc (.cells #[.int .i64 0,.int .i64 0,.int .i64 0] 101)).setRow w.heap.size #[N k,N m,N c]=W0 at *
 clear hW
 by_cases hn:n<=8388608
 · rw [decide_eq_true hn]
   have HSt:=hid (sstripes_any k m c n hk0 hc0 (by omega) hc hn)
   have HLa:=hid (slaid_any k m c hkm hc)
   have hL1:(k+m)*(c+4)<=255*4100:=Nat.mul_le_mul hkm (by omega)
   have hS1:=strN_le k c n (by omega) hc hn
   have hP1:strN k c n*((k+m)*(c+4))<=9433088*(255*4100):=Nat.mul_le_mul hS1 hL1
   have hw1:=wrap_mul (strN k c n) ((k+m)*(c+4)) _ hP1 (by omega)
   have HR1:=hid (HR.out.1 hn)
   clear HR
   generalize (k+m)*(c+4)=la at *
   generalize strN k c n=st at *
   generalize st*la=z at *
   have a0:=cellx hB1 0 rfl
   have a1:=cellx hB1 1 rfl
   have a2:=cellx hB1 2 rfl
   have HF:=hid hf01
   clear hf01 hf1 hB1 hn hP1 hS1 hL1
   go_upto_region 4 with fail
   go_region_held3 (fun w' => w'.cell? ⟨w.heap.size, 0, none⟩ = some (N k) ∧ w'.cell? ⟨w.heap.size, 1, none⟩ = some (N m) ∧ w'.cell? ⟨w.heap.size, 2, none⟩ = some (N c))
    (first | go_keep)
    ((first
     | (go_at_call 58; refine (HSt.out _).mono ?_; rintro e w2 ⟨rfl, hf2⟩; have b0 := hf2.cell a0; have b1 := hf2.cell a1; have b2 := hf2.cell a2)
     | (go_at_call 88; refine (HLa.out _).mono ?_; rintro e w3 ⟨rfl, hf3⟩; have d0 := hf3.cell b0; have d1 := hf3.cell b1; have d2 := hf3.cell b2)))
   by_cases hz:z<=16777216
   · have hz':¬(16777216:Int)<z:=by omega
     have HE:=hid (HR1.out.1 hz)
     go_wp2_with fail
     exact bodyPost_ret (v:=.tuple #[N z,.int .i64 0]) (by simp [results,Tryz.results57,go_sem, *]) rfl ⟨by rw [HE.out],((HF.out.trans (Fr.drew (Fr.refl _))).trans hf2).trans hf3⟩
   · have hz':(16777216:Int)<z:=by omega
     have HE:=hid (HR1.out.2 hz)
     go_wp2_with fail
     exact bodyPost_ret (v:=.tuple #[.int .i64 0,.int .i64 6]) (by simp [results,Tryz.results57,go_sem, *]) rfl ⟨by rw [HE.out],((HF.out.trans (Fr.drew (Fr.refl _))).trans hf2).trans hf3⟩
 · rw [decide_eq_false hn]
   have HE:=hid (HR.out.2 hn)
   go_wp2_with fail
   exact bodyPost_ret (v:=.tuple #[.int .i64 0,.int .i64 13]) (by simp [results,Tryz.results57,go_sem, *]) rfl ⟨by rw [HE.out],hf01⟩
def stripeL(l:List UInt8)(k m c a:Nat):List UInt8:=putsL (partsS l c a k)++putsL (parL m (partsS l c a k) c)
def layL(l:List UInt8)(k m c:Nat):Nat->List UInt8
 | 0=>[]
 | s+1=>layL l k m c s++stripeL l k m c (s*(k*c))
theorem parL_len(m:Nat)(ds:List (List UInt8))(L:Nat):(parL m ds L).length=m:=timesL_len _ _ _ _ _
theorem parL_all(m:Nat)(ds:List (List UInt8))(L:Nat)(hl:∀ p∈ds,p.length=L):∀ p∈parL m ds L,p.length=L:=by
 intro p hp
 unfold parL timesL at hp
 simp only [List.mem_map]at hp
 obtain⟨i,_,rfl⟩:=hp
 exact rowT_len _ _ _ _ _ _ hl (Nat.le_refl _)
theorem stripeL_len(l:List UInt8)(k m c a:Nat):(stripeL l k m c a).length=(k+m)*(c+4):=by
 unfold stripeL
 rw [List.length_append,putsL_len _ c (partsS_all l c a k),putsL_len _ c (parL_all m _ c (partsS_all l c a k)),partsS_len,parL_len,Nat.add_mul]
theorem layL_len(l:List UInt8)(k m c s:Nat):(layL l k m c s).length=s*((k+m)*(c+4)):=by
 induction s with
 | zero=>simp [layL]
 | succ s ih=>rw [layL,List.length_append,ih,stripeL_len];generalize (k+m)*(c+4)=z;rw [Nat.add_mul,Nat.one_mul]
theorem strN_lt(k c n:Nat)(h:0<k*c)(s:Nat):s<strN k c n↔s*(k*c)<n:=by
 unfold strN
 rw [Nat.lt_iff_add_one_le,Nat.le_div_iff_mul_le h,Nat.add_mul,Nat.one_mul]
 omega
end Go.Proofs.YtdagmoonnbnceaaGreatDoor
