/- Parts of the proof of ThreeOpens: T1 T2 Md0 Md1. -/
import Derived.Test.YtijghcbpfcjjnaaGreatDoorM20
import Derived.Lib.SmallJoins
import Derived.Test.YtijghcbpfcjjnaaGreatDoorM10
import Derived.Test.YtijghcbpfcjjnaaGreatDoorM06
import Derived.Test.YtijghcbpfcjjnaaGreatDoorM09
import Derived.Test.YtijghcbpfcjjnaaGreatDoorM07
set_option linter.unusedVariables false
set_option linter.unusedSectionVars false
set_option linter.unusedSimpArgs false
set_option maxHeartbeats 8000000
namespace Go.Proofs.YtijghcbpfcjjnaaGreatDoor
open Go.RowKit Go.Fk
theorem wrap_mul(a b m:Nat)(ha:a*b<=m)(hm:m<9223372036854775808):IntKind.i64.wrap ((a:Int)*(b:Int))=((a*b:Nat):Int):=by
 rw [Int.natCast_mul];exact IntWalk.i64_in _ (by rw [<- Int.natCast_mul];omega)
abbrev shV(k m c:Nat):Value:=.agg #[N k,N m,N c]
set_option maxRecDepth 100000
theorem sdata_any(k m c:Nat)(hk:k<=255)(hc:c<=4096)(w:World):Calls Tryz.prog 64 #[shV k m c] w fun e w'=>e=.returned (N (k*c))/\Fr w w':=by
 have h1:k*c<=255*4096:=Nat.mul_le_mul hk hc
 have hw:=wrap_mul k c _ h1 (by omega)
 generalize k*c=z at *
 go_enter Tryz.func64, Tryz.ntmps64
 go_wp2_with fail
 go_ret
 exact⟨rfl,(Fr.refl w).alloc _⟩
theorem slaid_any(k m c:Nat)(hk:k+m<=255)(hc:c<=4096)(w:World):Calls Tryz.prog 75 #[shV k m c] w fun e w'=>e=.returned (N ((k+m)*(c+4)))/\Fr w w':=by
 have h1:(k+m)*(c+4)<=255*4100:=Nat.mul_le_mul hk (by omega)
 have hw:=wrap_mul (k+m) (c+4) _ h1 (by omega)
 have k1:(0:Int)<=k:=by omega
 have k2:(k:Int)<=255:=by omega
 have k3:(0:Int)<=m:=by omega
 have k4:(m:Int)<=255:=by omega
 have k5:(c:Int)<=4096:=by omega
 have k6:(0:Int)<=c:=by omega
 rw [show((k+m:Nat):Int)=(k:Int)+m by omega,show((c+4:Nat):Int)=(c:Int)+4 by omega]at hw
 generalize (k+m)*(c+4)=z at *
 go_enter Tryz.func75, Tryz.ntmps75
 go_wp2_with fail
 go_ret
 exact⟨rfl,(Fr.refl w).alloc _⟩
set_option maxRecDepth 512
def strN(k c n:Nat):Nat:=(n+k*c - 1) / (k*c)
set_option maxRecDepth 100000
theorem sstripes_any(k m c n:Nat)(hk0:1<=k)(hc0:1<=c)(hk:k<=255)(hc:c<=4096)(hn:n<=8388608)(w:World):Calls Tryz.prog 63 #[shV k m c,N n] w fun e w'=>e=.returned (N (strN k c n))/\Fr w w':=by
  have h1:k*c<=255*4096:=Nat.mul_le_mul hk hc
  have h2:1*1<=k*c:=Nat.mul_le_mul hk0 hc0
  have HD:=hid (sdata_any k m c hk hc)
  unfold strN
  generalize k*c=z at *
  have hz1:(1:Int)<=z:=by omega
  have hw1:IntKind.i64.wrap ((n:Int)+z)=(n:Int)+z:=IntWalk.i64_in _ (by omega)
  have hw2:IntKind.i64.wrap ((n:Int)+z - 1)=(n:Int)+z - 1:=IntWalk.i64_in _ (by omega)
  have hdv:((n:Int)+z - 1).tdiv z=(((n+z - 1) / z:Nat):Int):=by
    rw [show(n:Int)+z - 1=((n+z - 1:Nat):Int) by omega,Int.tdiv_eq_ediv_of_nonneg (by omega)];simp
  have hq:(n+z - 1) / z<=8388608+255*4096:=Nat.le_trans (Nat.div_le_self _ _) (by omega)
  generalize (n+z - 1) / z=q at *
  have hw3:IntKind.i64.wrap (q:Int)=q:=IntWalk.i64_in _ (by omega)
  have hz0:¬(z:Int)=0:=by omega
  have hz2:¬z=0:=by omega
  have hz3:z≠0:=hz2
  go_enter Tryz.func63, Tryz.ntmps63
  go_wp2_with fail
  generalize hW:w.alloc (.cells #[N k,N m,N c] 118)=W
  have hf0:Fr w W:=by rw [<- hW];exact(Fr.refl w).alloc _
  have hc0:W.cell? ⟨w.heap.size,0,none⟩=some (N k)/\W.cell? ⟨w.heap.size,1,none⟩=some (N m)/\W.cell? ⟨w.heap.size,2,none⟩=some (N c):=by
    rw [<- hW];refine⟨?_,?_,?_⟩ <;> rw [World.cell?_alloc_at _ _ _ _ rfl] <;> rfl
  obtain⟨a0,a1,a2⟩:=hc0
  have HF:=hid hf0
  clear hW hf0
  go_region_held3 (fun w' => w'.cell? ⟨w.heap.size, 0, none⟩ = some (N k) ∧ w'.cell? ⟨w.heap.size, 1, none⟩ = some (N m) ∧ w'.cell? ⟨w.heap.size, 2, none⟩ = some (N c))
    (first | go_keep)
    ((first
      | (go_at_call 64; refine (HD.out _).mono ?_; rintro e w1 ⟨rfl, hf1⟩; have b0 := hf1.cell a0; have b1 := hf1.cell a1; have b2 := hf1.cell a2)
      | (go_at_call 64; refine (HD.out _).mono ?_; rintro e w2 ⟨rfl, hf2⟩; have d0 := hf2.cell b0; have d1 := hf2.cell b1; have d2 := hf2.cell b2)))
  go_wp2_with fail
  go_ret
  exact⟨rfl,((HF.out.trans (Fr.drew (Fr.refl _))).trans hf1).trans hf2⟩
theorem smay_any(k m c n:Nat)(hk0:1<=k)(hkm:k+m<=255)(hc0:1<=c)(hc:c<=4096)(w:World):Calls Tryz.prog 111 #[shV k m c,N n] w fun e w'=>e=.returned (.bool (decide (n<=8388608)))/\Fr w w':=by
 have k1:(1:Int)<=k:=by omega
 have k2:(0:Int)<=m:=by omega
 have k3:(k:Int)<=255:=by omega
 have k4:(m:Int)<=255 - k:=by omega
 have k5:(1:Int)<=c:=by omega
 have k6:(c:Int)<=4096:=by omega
 have k7:(0:Int)<=n:=by omega
 have hw:IntKind.i64.wrap (255 - (k:Int))=255 - k:=IntWalk.i64_in _ (by omega)
 by_cases h:n<=8388608
 · rw [decide_eq_true h]
   have h8:(n:Int)<=8388608:=by omega
   go_enter Tryz.func111, Tryz.ntmps111
   go_wp2_with fail
   go_ret
   exact⟨rfl,(Fr.refl w).alloc _⟩
 · rw [decide_eq_false h]
   have h8:¬(n:Int)<=8388608:=by omega
   go_enter Tryz.func111, Tryz.ntmps111
   go_wp2_with fail
   go_ret
   exact⟨rfl,(Fr.refl w).alloc _⟩
set_option maxRecDepth 512
def sizeV(k m c n:Nat):Value:=
 if n<=8388608 then(if strN k c n*((k+m)*(c+4))<=16777216 then .tuple #[N (strN k c n*((k+m)*(c+4))),.int .i64 0]else .tuple #[.int .i64 0,.int .i64 6])else .tuple #[.int .i64 0,.int .i64 13]
theorem sizeV_cases(k m c n:Nat):(n<=8388608->(strN k c n*((k+m)*(c+4))<=16777216->sizeV k m c n=.tuple #[N (strN k c n*((k+m)*(c+4))),.int .i64 0])/\(¬strN k c n*((k+m)*(c+4))<=16777216->sizeV k m c n=.tuple #[.int .i64 0,.int .i64 6]))/\(¬n<=8388608->sizeV k m c n=.tuple #[.int .i64 0,.int .i64 13]):=by
 unfold sizeV
 refine⟨fun h=>⟨fun h2=>by rw [if_pos h,if_pos h2],fun h2=>by rw [if_pos h,if_neg h2]⟩,fun h=>by rw [if_neg h]⟩
theorem strN_le(k c n:Nat)(hk:k<=255)(hc:c<=4096)(hn:n<=8388608):strN k c n<=9433088:=by
 have h1:k*c<=255*4096:=Nat.mul_le_mul hk hc
 unfold strN
 exact Nat.le_trans (Nat.div_le_self _ _) (by omega)
set_option maxRecDepth 100000
theorem Size_any(k m c n:Nat)(hk0:1<=k)(hkm:k+m<=255)(hc0:1<=c)(hc:c<=4096)(w:World):Calls Tryz.prog 62 #[N k,N m,N c,N n] w fun e w'=>e=.returned (sizeV k m c n)/\Fr w w':=by
 have HM:=hid (smay_any k m c n hk0 hkm hc0 hc)
 have HR:=hid (sizeV_cases k m c n)
 generalize sizeV k m c n=R at *
 have h3:=heap_new w (.cells #[.int .i64 0,.int .i64 0,.int .i64 0] 118) _ rfl
 have hinf:(Tryz.prog.info? 118).map (·.size)=some 3:=by kernel_rfl
 have hone:(#[N k,N m,N c]:Array Value).all (·.oneCell')=true:=by
  rw [List.all_toArray];rfl
 have hset:=setRow_row _ _ #[N k,N m,N c] _ _ h3
 have hf4:Fr w ((w.alloc (.cells #[.int .i64 0,.int .i64 0,.int .i64 0] 118)).setRow w.heap.size #[N k,N m,N c]):=Chg.below ((Fr.refl w).alloc _) (setRow_chg _ _ _) (by simp) (fun q hq=>by rw [hq];exact Nat.le_refl _)
 go_enter Tryz.func62, Tryz.ntmps62
 go_wp2_with (first | (refine wpList_store_row rfl 118 (.tmp 10) (.tmp 15) rfl w.heap.size #[N k,N m,N c] rfl rfl 118 _ h3 hinf rfl hone ?_) | (refine wpList_load_row rfl 118 (.tmp 10) rfl w.heap.size rfl 118 #[N k,N m,N c] (0,0) _ hset Tryz.underlying118 rfl hinf ?_))
 refine(HM.out _).mono ?_
 rintro e w1 ⟨rfl,hf1⟩
 have hB1:=hf1.heap hset
 have hf01:=hf4.trans hf1
 clear hset hone h3 hf4
 generalize hW:(w.alloc (.cells #[.int .i64 0,.int .i64 0,.int .i64 0] 118)).setRow w.heap.size #[N k,N m,N c]=W0 at *
 clear hW
 by_cases hn:n<=8388608
 · rw [decide_eq_true hn]
   have HSt:=hid (sstripes_any k m c n hk0 hc0 (by omega) hc hn)
   have HLa:=hid (slaid_any k m c hkm hc)
   have hL1:(k+m)*(c+4)<=255*4100:=Nat.mul_le_mul hkm (by omega)
   have hS1:=strN_le k c n (by omega) hc hn
   have hP1:strN k c n*((k+m)*(c+4))<=9433088*(255*4100):=Nat.mul_le_mul hS1 hL1
   have hw1:=wrap_mul (strN k c n) ((k+m)*(c+4)) _ hP1 (by omega)
   have HR1:=hid (HR.out.1 hn)
   clear HR
   generalize (k+m)*(c+4)=la at *
   generalize strN k c n=st at *
   generalize st*la=z at *
   have a0:w1.cell? ⟨w.heap.size,0,none⟩=some (N k):=by rw [cell_of_heap hB1];rfl
   have a1:w1.cell? ⟨w.heap.size,1,none⟩=some (N m):=by rw [cell_of_heap hB1];rfl
   have a2:w1.cell? ⟨w.heap.size,2,none⟩=some (N c):=by rw [cell_of_heap hB1];rfl
   have HF:=hid hf01
   clear hf01 hf1 hB1 hn hP1 hS1 hL1
   go_upto_region 4 with fail
   go_region_held3 (fun w' => w'.cell? ⟨w.heap.size, 0, none⟩ = some (N k) ∧ w'.cell? ⟨w.heap.size, 1, none⟩ = some (N m) ∧ w'.cell? ⟨w.heap.size, 2, none⟩ = some (N c))
    (first | go_keep)
    ((first
     | (go_at_call 63; refine (HSt.out _).mono ?_; rintro e w2 ⟨rfl, hf2⟩; have b0 := hf2.cell a0; have b1 := hf2.cell a1; have b2 := hf2.cell a2)
     | (go_at_call 75; refine (HLa.out _).mono ?_; rintro e w3 ⟨rfl, hf3⟩; have d0 := hf3.cell b0; have d1 := hf3.cell b1; have d2 := hf3.cell b2)))
   by_cases hz:z<=16777216
   · have hz':¬(16777216:Int)<z:=by omega
     have HE:=hid (HR1.out.1 hz)
     go_wp2_with fail
     exact bodyPost_ret (v:=.tuple #[N z,.int .i64 0]) (by simp [results,Tryz.results62,go_sem, *]) rfl ⟨by rw [HE.out],((HF.out.trans (Fr.drew (Fr.refl _))).trans hf2).trans hf3⟩
   · have hz':(16777216:Int)<z:=by omega
     have HE:=hid (HR1.out.2 hz)
     go_wp2_with fail
     exact bodyPost_ret (v:=.tuple #[.int .i64 0,.int .i64 6]) (by simp [results,Tryz.results62,go_sem, *]) rfl ⟨by rw [HE.out],((HF.out.trans (Fr.drew (Fr.refl _))).trans hf2).trans hf3⟩
 · rw [decide_eq_false hn]
   have HE:=hid (HR.out.2 hn)
   go_wp2_with fail
   exact bodyPost_ret (v:=.tuple #[.int .i64 0,.int .i64 13]) (by simp [results,Tryz.results62,go_sem, *]) rfl ⟨by rw [HE.out],hf01⟩
theorem RSize_any(k m c n:Nat)(hk0:1<=k)(hkm:k+m<=255)(hc0:1<=c)(hc:c<=4096)(w:World):Calls Tryz.prog 90 #[N k,N m,N c,N n] w fun e w'=>e=.returned (sizeV k m c n)/\Fr w w':=by
 have HM:=hid (RMay_any k m hk0 hkm)
 have HR:=hid (sizeV_cases k m c n)
 generalize sizeV k m c n=R at *
 have k5:(1:Int)<=c:=by omega
 have k6:(c:Int)<=4096:=by omega
 have k7:(0:Int)<=n:=by omega
 by_cases hn:n<=8388608
 · have hn':(n:Int)<=8388608:=by omega
   have hL1:(k+m)*(c+4)<=255*4100:=Nat.mul_le_mul hkm (by omega)
   have hS1:=strN_le k c n (by omega) hc hn
   have hS0:1*1<=k*c:=Nat.mul_le_mul hk0 hc0
   have hS2:k*c<=255*4096:=Nat.mul_le_mul (by omega) hc
   have hP1:strN k c n*((k+m)*(c+4))<=9433088*(255*4100):=Nat.mul_le_mul hS1 hL1
   have hst:strN k c n=n / (k*c)+(if n / (k*c)*k*c<n then 1 else 0):=by
    unfold strN
    have h1:=Nat.div_add_mod n (k*c)
    have h2:=Nat.mod_lt n (show 0<k*c by omega)
    have h3:n / (k*c)*k*c=k*c*(n / (k*c)):=by rw [Nat.mul_assoc,Nat.mul_comm]
    rw [h3]
    generalize k*c=z at *
    generalize hq:n / z=q at *
    generalize hr:n % z=r at *
    have hz:0<z:=by omega
    have e:(n+z - 1)=z*q+(r+z - 1):=by omega
    rw [e,Nat.mul_add_div hz]
    by_cases hr0:r=0
    · subst hr0
      rw [if_neg (by omega),Nat.div_eq_of_lt (by omega)]
    · rw [if_pos (by omega)]
      have:r+z - 1=z+(r - 1):=by omega
      rw [this,Nat.add_div_left _ hz,Nat.div_eq_of_lt (by omega)]
   have HR1:=hid (HR.out.1 hn)
   clear HR
   have hsplit:(if n / (k*c)*k*c<n then 1 else 0)<=1:=by split <;> omega
   have hw1:=wrap_mul k c _ hS2 (by omega)
   have hdv:(n:Int).tdiv ((k*c:Nat):Int)=((n / (k*c):Nat):Int):=by rw [Int.tdiv_eq_ediv_of_nonneg (by omega)];simp
   have hkc0:¬((k*c:Nat):Int)=0:=by omega
   have hq1:n / (k*c)<=8388608:=Nat.le_trans (Nat.div_le_self _ _) hn
   have hq2:0<=n / (k*c):=Nat.zero_le _
   have hw2:=wrap_mul (n / (k*c)) k (8388608*255) (Nat.mul_le_mul hq1 (by omega)) (by omega)
   have hw3:=wrap_mul (n / (k*c)*k) c (8388608*255*4096) (Nat.mul_le_mul (Nat.mul_le_mul hq1 (by omega)) hc) (by omega)
   have hwq:IntKind.i64.wrap ((n / (k*c):Nat):Int)=((n / (k*c):Nat):Int):=wrap_i64 _ (by omega)
   have hw4:=wrap_mul (strN k c n) (k+m) (9433088*255) (Nat.mul_le_mul hS1 hkm) (by omega)
   have hw5:=wrap_mul (strN k c n*(k+m)) (c+4) (9433088*255*4100) (Nat.mul_le_mul (Nat.mul_le_mul hS1 hkm) (by omega)) (by omega)
   rw [Nat.mul_assoc]at hw5
   rw [show((k+m:Nat):Int)=(k:Int)+m by omega]at hw4
   rw [show((c+4:Nat):Int)=(c:Int)+4 by omega]at hw5
   generalize hz:strN k c n*((k+m)*(c+4))=z at *
   generalize strN k c n*(k+m)=z1 at *
   generalize strN k c n=st at *
   generalize n / (k*c)*k*c=z2 at *
   generalize n / (k*c)*k=z3 at *
   generalize n / (k*c)=q at *
   generalize k*c=kc at *
   have HST:=hid hst
   clear hst hz hP1 hS1 hL1
   go_enter Tryz.func90, Tryz.ntmps90
   go_wp2_with fail
   refine(HM.out _).mono ?_
   rintro e w1 ⟨rfl,rfl⟩
   have k8:(1:Int)<=k:=by omega
   have k9:(k:Int)+m<=255:=by omega
   have k10:(0:Int)<=m:=by omega
   have fin:∀ W:World,Fr W W:=Fr.refl
   by_cases h2:z2<n
   · have h2':(z2:Int)<n:=by omega
     obtain rfl:st=q+1:=by rw [HST.out,if_pos h2]
     rw [show((q+1:Nat):Int)=(q:Int)+1 by omega]at hw4
     clear HST
     by_cases hz:z<=16777216
     · have hz':¬(16777216:Int)<z:=by omega
       have HE:=hid (HR1.out.1 hz)
       clear HR1
       go_wp2_with fail
       exact bodyPost_ret (v:=.tuple #[N z,.int .i64 0]) (by simp [results,Tryz.results90,go_sem, *]) rfl ⟨by rw [HE.out],Fr.refl _⟩
     · have hz':(16777216:Int)<z:=by omega
       have HE:=hid (HR1.out.2 hz)
       clear HR1
       go_wp2_with fail
       exact bodyPost_ret (v:=.tuple #[.int .i64 0,.int .i64 6]) (by simp [results,Tryz.results90,go_sem, *]) rfl ⟨by rw [HE.out],Fr.refl _⟩
   · have h2':¬(z2:Int)<n:=by omega
     obtain rfl:st=q:=by rw [HST.out,if_neg h2];rfl
     clear HST
     by_cases hz:z<=16777216
     · have hz':¬(16777216:Int)<z:=by omega
       have HE:=hid (HR1.out.1 hz)
       clear HR1
       go_wp2_with fail
       exact bodyPost_ret (v:=.tuple #[N z,.int .i64 0]) (by simp [results,Tryz.results90,go_sem, *]) rfl ⟨by rw [HE.out],Fr.refl _⟩
     · have hz':(16777216:Int)<z:=by omega
       have HE:=hid (HR1.out.2 hz)
       clear HR1
       go_wp2_with fail
       exact bodyPost_ret (v:=.tuple #[.int .i64 0,.int .i64 6]) (by simp [results,Tryz.results90,go_sem, *]) rfl ⟨by rw [HE.out],Fr.refl _⟩
 · have hn':¬(n:Int)<=8388608:=by omega
   have HE:=hid (HR.out.2 hn)
   clear HR
   go_enter Tryz.func90, Tryz.ntmps90
   go_wp2_with fail
   refine(HM.out _).mono ?_
   rintro e w1 ⟨rfl,rfl⟩
   go_wp2_with fail
   exact bodyPost_ret (v:=.tuple #[.int .i64 0,.int .i64 13]) (by simp [results,Tryz.results90,go_sem, *]) rfl ⟨by rw [HE.out],Fr.refl _⟩
set_option maxRecDepth 512
def stripeL(l:List UInt8)(k m c a:Nat):List UInt8:=putsL (partsS l c a k)++putsL (parL m (partsS l c a k) c)
def layL(l:List UInt8)(k m c:Nat):Nat->List UInt8
 | 0=>[]
 | s+1=>layL l k m c s++stripeL l k m c (s*(k*c))
theorem parL_len(m:Nat)(ds:List (List UInt8))(L:Nat):(parL m ds L).length=m:=timesL_len _ _ _ _ _
theorem parL_all(m:Nat)(ds:List (List UInt8))(L:Nat)(hl:∀ p∈ds,p.length=L):∀ p∈parL m ds L,p.length=L:=by
 intro p hp
 unfold parL timesL at hp
 simp only [List.mem_map]at hp
 obtain⟨i,_,rfl⟩:=hp
 exact rowT_len _ _ _ _ _ _ hl (Nat.le_refl _)
theorem stripeL_len(l:List UInt8)(k m c a:Nat):(stripeL l k m c a).length=(k+m)*(c+4):=by
 unfold stripeL
 rw [List.length_append,putsL_len _ c (partsS_all l c a k),putsL_len _ c (parL_all m _ c (partsS_all l c a k)),partsS_len,parL_len,Nat.add_mul]
theorem layL_len(l:List UInt8)(k m c s:Nat):(layL l k m c s).length=s*((k+m)*(c+4)):=by
 induction s with
 | zero=>simp [layL]
 | succ s ih=>rw [layL,List.length_append,ih,stripeL_len];generalize (k+m)*(c+4)=z;rw [Nat.add_mul,Nat.one_mul]
theorem strN_lt(k c n:Nat)(h:0<k*c)(s:Nat):s<strN k c n↔s*(k*c)<n:=by
 unfold strN
 rw [Nat.lt_iff_add_one_le,Nat.le_div_iff_mul_le h,Nat.add_mul,Nat.one_mul]
 omega
def nowL(k m c:Nat)(ats:List Nat)(l:List (List UInt8)):List (List UInt8):=dataL k m c ats l++parL m (dataL k m c ats l) c
theorem nowL_len(k m c:Nat)(ats:List Nat)(l:List (List UInt8)):(nowL k m c ats l).length=k+m:=by
 unfold nowL;rw [List.length_append,data_len,parL_len]
theorem nowL_all(k m c:Nat)(ats:List Nat)(l:List (List UInt8))(hk:l.length=k)(hc:∀ p∈l,p.length=c):∀ p∈nowL k m c ats l,p.length=c:=by
 intro p hp
 rcases List.mem_append.1 hp with h | h
 · exact data_all k m c ats l hk hc p h
 · exact parL_all m _ c (data_all k m c ats l hk hc) p h
def goodsL(good:List Bool):List Nat:=(List.range good.length).filter fun i=>good.getD i false
def atL(ats:List Nat)(ps:List (List UInt8)):List (List UInt8):=ats.map fun i=>ps.getD i []
def chunkS(l:List UInt8)(c a i:Nat):List UInt8:=(l.drop (a+i*(c+4))).take (c+4)
def goodS(l:List UInt8)(c a n:Nat):List Bool:=(List.range n).map fun i=>okCut (chunkS l c a i)
def partS(l:List UInt8)(c a n:Nat):List (List UInt8):=(List.range n).map fun i=>cutB (chunkS l c a i)
def badS(l:List UInt8)(c a n b:Nat):List Nat:=((List.range n).filter fun i=>!okCut (chunkS l c a i)).map fun i=>b+i
def sameS(now ps:List (List UInt8))(good:List Bool):Bool:=(List.range good.length).all fun i=>!good.getD i false || decide (now.getD i []=ps.getD i [])
def stripeR(k m c:Nat)(l:List UInt8)(a:Nat):Nat × List (List UInt8):=
 let good:=goodS l c a (k+m)
 let ps:=partS l c a (k+m)
 if (goodsL good).length < k then (12, []) else
  let ats:=(goodsL good).take k
  let now:=nowL k m c ats (atL ats ps)
  if sameS now ps good then(0,now.take k)else(2,[])
def readGo(k m c:Nat)(l:List UInt8):Nat->Nat->List UInt8->List Nat->Nat × List UInt8 × List Nat
 | 0,_,out,bad=>(0,out,bad)
 | f+1,s,out,bad=>
  let r:=stripeR k m c l (s*((k+m)*(c+4)))
  if r.1=0 then readGo k m c l f (s+1) (out++r.2.flatten) (bad++badS l c (s*((k+m)*(c+4))) (k+m) (s*(k+m)))else(r.1,[],[])
def readS(k m c n:Nat)(l:List UInt8):Nat × List UInt8 × List Nat:=
 if 8388608<n then(13,[],[])else if 16777216<strN k c n*((k+m)*(c+4))then(6,[],[])
 else if l.length<strN k c n*((k+m)*(c+4))then(1,[],[])else if strN k c n*((k+m)*(c+4))<l.length then(2,[],[])
 else
  let r:=readGo k m c l (strN k c n) 0 [] []
  if r.1=0 then(if(r.2.1.drop n).all (· == 0)then(0,r.2.1.take n,r.2.2)else(2,[],[]))else(r.1,[],[])
def badG(ok:List Bool)(n:Nat):List Nat:=((List.range ok.length).filter fun i=>!ok.getD i false).map fun i=>n+i
theorem badG_snoc(ok:List Bool)(b:Bool)(n:Nat):badG (ok++[b]) n=if b then badG ok n else badG ok n++[n+ok.length]:=by
 unfold badG
 rw [List.length_append,List.length_singleton,List.range_succ,List.filter_append,List.map_append]
 have h1:(List.range ok.length).filter (fun i=>!(ok++[b]).getD i false)=(List.range ok.length).filter (fun i=>!ok.getD i false):=by
  refine List.filter_congr fun i hi=>?_
  have:=List.mem_range.1 hi
  rw [List.getD_eq_getElem?_getD,List.getD_eq_getElem?_getD,List.getElem?_append_left this]
 have h2:(ok++[b]).getD ok.length false=b:=by
  rw [List.getD_eq_getElem?_getD,List.getElem?_append_right (Nat.le_refl _)];simp
 have h3:(List.filter (fun i=>!(ok++[b]).getD i false) [ok.length])=if b then []else [ok.length]:=by
  rw [List.filter_cons,h2]
  cases b <;> rfl
 rw [h1,h3]
 cases b
 · rfl
 · simp
theorem badG_len(ok:List Bool)(n:Nat):(badG ok n).length<=ok.length:=by
 unfold badG
 rw [List.length_map]
 have:=List.length_filter_le (fun i=>!ok.getD i false) (List.range ok.length)
 rw [List.length_range]at this
 exact this
theorem goodS_len(l:List UInt8)(c a n:Nat):(goodS l c a n).length=n:=by simp [goodS]
theorem partS_len(l:List UInt8)(c a n:Nat):(partS l c a n).length=n:=by simp [partS]
theorem goodS_at(l:List UInt8)(c a n i:Nat)(h:i<n):(goodS l c a n).getD i false=okCut (chunkS l c a i):=by
 rw [List.getD_eq_getElem?_getD]
 unfold goodS
 rw [List.getElem?_map,List.getElem?_range h]
 rfl
theorem badS_eq(l:List UInt8)(c a n b:Nat):badS l c a n b=badG (goodS l c a n) b:=by
 unfold badS badG
 rw [goodS_len]
 congr 1
 refine List.filter_congr fun i hi=>?_
 rw [goodS_at l c a n i (List.mem_range.1 hi)]
theorem goods_bads(ok:List Bool)(n:Nat):(goodsL ok).length+(badG ok n).length=ok.length:=by
 unfold goodsL badG
 rw [List.length_map]
 have h:∀ (f:Nat->Bool) (l:List Nat),(l.filter f).length+(l.filter fun i=>!f i).length=l.length:=by
  intro f l
  induction l with
  | nil=>rfl
  | cons x l ih=>
   rw [List.filter_cons,List.filter_cons]
   cases hf:f x
   · rw [if_neg (by simp),if_pos (by simp),List.length_cons,List.length_cons];omega
   · rw [if_pos rfl,if_neg (by simp),List.length_cons,List.length_cons];omega
 have:=h (fun i=>ok.getD i false) (List.range ok.length)
 rw [List.length_range]at this
 exact this
theorem chunkS_cut(l:List UInt8)(c a i L:Nat)(h:i*(c+4)+(c+4)<=L):chunkS ((l.drop a).take L) c 0 i=chunkS l c a i:=by
 unfold chunkS
 rw [List.drop_take,List.take_take,Nat.zero_add,List.drop_drop,Nat.min_eq_left (by omega)]
theorem row_le(i n c:Nat)(h:i<n):i*(c+4)+(c+4)<=n*(c+4):=by
 have:=Nat.mul_le_mul_right (c+4) (show i+1<=n from h)
 rw [Nat.add_mul,Nat.one_mul]at this
 exact this
theorem goodS_cut(l:List UInt8)(c a n:Nat):goodS ((l.drop a).take (n*(c+4))) c 0 n=goodS l c a n:=by
 unfold goodS
 exact List.map_congr_left fun i hi=>by rw [chunkS_cut l c a i _ (row_le i n c (List.mem_range.1 hi))]
theorem partS_cut(l:List UInt8)(c a n:Nat):partS ((l.drop a).take (n*(c+4))) c 0 n=partS l c a n:=by
 unfold partS
 exact List.map_congr_left fun i hi=>by rw [chunkS_cut l c a i _ (row_le i n c (List.mem_range.1 hi))]
theorem stripeR_cut(k m c:Nat)(l:List UInt8)(a:Nat):stripeR k m c ((l.drop a).take ((k+m)*(c+4))) 0=stripeR k m c l a:=by
 unfold stripeR
 rw [goodS_cut,partS_cut]
theorem badS_cut(l:List UInt8)(c a n b:Nat):badS ((l.drop a).take (n*(c+4))) c 0 n b=badS l c a n b:=by
 rw [badS_eq,badS_eq,goodS_cut]
theorem chunk_len(l:List UInt8)(c a i:Nat)(h:a+i*(c+4)+(c+4)<=l.length):(chunkS l c a i).length=c+4:=by
 unfold chunkS
 rw [List.length_take,List.length_drop]
 omega
theorem part_len(l:List UInt8)(c a n:Nat)(h:a+n*(c+4)<=l.length):∀ r (hr:r<(partS l c a n).length),(goodS l c a n).getD r false=true->(partS l c a n)[r].length=c:=by
 intro r hr hg
 rw [partS_len]at hr
 rw [goodS_at l c a n r hr]at hg
 have:=row_le r n c hr
 simp only [partS,List.getElem_map,List.getElem_range]
 rw [cut_len' _ hg,chunk_len l c a r (by omega)]
 omega
theorem stripeR_dam(k m c:Nat)(l:List UInt8)(a:Nat)(h:(goodsL (goodS l c a (k+m))).length<k):stripeR k m c l a=(12,[]):=by unfold stripeR;simp only [h,if_true]
theorem stripeR_ok(k m c:Nat)(l:List UInt8)(a:Nat)(h:¬(goodsL (goodS l c a (k+m))).length<k)(hs:sameS (nowL k m c ((goodsL (goodS l c a (k+m))).take k) (atL ((goodsL (goodS l c a (k+m))).take k) (partS l c a (k+m)))) (partS l c a (k+m)) (goodS l c a (k+m))=true) :
  stripeR k m c l a=(0,(nowL k m c ((goodsL (goodS l c a (k+m))).take k) (atL ((goodsL (goodS l c a (k+m))).take k) (partS l c a (k+m)))).take k):=by unfold stripeR;simp only [h,if_false,hs,if_true]
theorem stripeR_bad(k m c:Nat)(l:List UInt8)(a:Nat)(h:¬(goodsL (goodS l c a (k+m))).length<k)(hs:sameS (nowL k m c ((goodsL (goodS l c a (k+m))).take k) (atL ((goodsL (goodS l c a (k+m))).take k) (partS l c a (k+m)))) (partS l c a (k+m)) (goodS l c a (k+m))=false) :
  stripeR k m c l a=(2,[]):=by
 unfold stripeR;simp only [h,if_false,hs];rfl
theorem sameS_yes(now ps:List (List UInt8))(good:List Bool)(h:∀ i,i<good.length->good.getD i false=true->now.getD i []=ps.getD i []):sameS now ps good=true:=by
 unfold sameS
 rw [List.all_eq_true]
 intro i hi
 have:=h i (List.mem_range.1 hi)
 cases hg:good.getD i false
 · rfl
 · rw [this hg];simp
theorem sameS_no(now ps:List (List UInt8))(good:List Bool)(i:Nat)(hi:i<good.length)(hg:good.getD i false=true)(hne:now.getD i []≠ps.getD i []):sameS now ps good=false:=by
 unfold sameS
 rw [List.all_eq_false]
 exact⟨i,List.mem_range.2 hi,by rw [hg];simpa using hne⟩
theorem flat_all(c:Nat):∀ (ls:List (List UInt8)),(∀ p∈ls,p.length=c)->ls.flatten.length=ls.length*c
 | [],_=>by simp
 | p::ls,h=>by
  rw [List.flatten_cons,List.length_append,flat_all c ls (fun q hq=>h q (List.mem_cons_of_mem _ hq)),h p (List.mem_cons_self ..),List.length_cons,Nat.add_mul]
  omega
end Go.Proofs.YtijghcbpfcjjnaaGreatDoor
