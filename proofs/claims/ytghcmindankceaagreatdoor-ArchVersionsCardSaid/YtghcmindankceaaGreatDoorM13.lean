/- Parts of the proof of ArchVersions: Nc Nd Ne Nf Ng Ca Cb Cc. -/
import Derived.Test.YtghcmindankceaaGreatDoorM12
import Derived.Test.YtghcmindankceaaGreatDoorM08
import Derived.Test.YtghcmindankceaaGreatDoorM05
set_option linter.unusedVariables false
set_option linter.unusedSectionVars false
set_option linter.unusedSimpArgs false
set_option maxHeartbeats 8000000
namespace Go.Proofs.YtghcmindankceaaGreatDoor
open Go.RowKit Go.Fk
set_option maxRecDepth 100000
theorem take1_no(Bn Bo k:Nat)(v:Value)(l:List UInt8)(w:World)(hn:w.heap[Bn]?=some (.cells #[N k] 3 (0,0)))(hs:See w eB v l)(hk:l.length<k) :
  Calls Tryz.prog 265 #[v,.pointer (some ⟨Bn,0,none⟩),.pointer (some ⟨Bo,0,none⟩)] w fun e w'=>e=.returned (.tuple #[.int .i64 0,.int .i64 1])/\w=w':=by
 obtain⟨a0,cap,hv,_⟩:=hs.shape
 subst hv
 have c0:w.cell? ⟨Bn,0,none⟩=some (N k):=by rw [cell_of_heap hn];rfl
 have h1:¬(k:Int)<0:=by omega
 have h2:(l.length:Int)<k:=by omega
 clear hs hn
 go_enter Tryz.func265, Tryz.ntmps265
 go_wp2_with fail
 go_ret2
 exact⟨rfl,rfl⟩
theorem take1_yes(Bn Bo k:Nat)(v ov:Value)(l:List UInt8)(w:World)(hn:w.heap[Bn]?=some (.cells #[N k] 3 (0,0)))(ho:w.heap[Bo]?=some (.cells #[ov] 22 (0,0)))(hne:Bn≠Bo)(hs:See w eB v l)(hk:k<=l.length)(hl:l.length<=1000000) :
  Calls Tryz.prog 265 #[v,.pointer (some ⟨Bn,0,none⟩),.pointer (some ⟨Bo,0,none⟩)] w fun e w'=>e=.returned (.tuple #[N k,.int .i64 0])/\∃ u,w'.heap[Bo]?=some (.cells #[u] 22 (0,0))/\Ow w' w.heap.size eB u (l.take k)/\Chg (fun b=>b=Bo) w w':=by
 obtain⟨a0,cap,hv,_⟩:=hs.shape
 subst hv
 obtain⟨htr,hts⟩:=run_to eB 22 Tryz.underlying22 hs k hk
 have c0:w.cell? ⟨Bn,0,none⟩=some (N k):=by rw [cell_of_heap hn];rfl
 have h1:¬(k:Int)<0:=by omega
 have h2:¬(l.length:Int)<k:=by omega
 have HC:=hid (BClone_any _ (l.take k) w hts (by rw [List.length_take];omega))
 have hBw:Bo<w.heap.size:=(Array.getElem?_eq_some_iff.1 ho).1
 clear hs hts
 generalize l.take k=q at *
 go_enter Tryz.func265, Tryz.ntmps265
 go_wp2_with fail
 refine(HC.out).mono ?_
 rintro e w1 ⟨u,rfl,hu,hf⟩
 obtain⟨p,z,hq⟩:=hu.shape'
 subst hq
 have ho1:=hf.heap ho
 have hn1:=hf.heap hn
 have d0:w1.cell? ⟨Bo,0,none⟩=some ov:=by rw [cell_of_heap ho1];rfl
 have z0:=frozen_of_heap ho1 0
 have hst:=setCell_chg w1 ⟨Bo,0,none⟩ (.slice p q.length z)
 have ho2:=heap_setCell_own ho1 0 (.slice p q.length z)
 have hn2:=hst.heap hn1 hne
 have e0:(w1.setCell ⟨Bo,0,none⟩ (.slice p q.length z)).cell? ⟨Bn,0,none⟩=some (N k):=by rw [cell_of_heap hn2];rfl
 have hu2:=hu.chg hst (fun i hi e=>by have h8:=(hu.lt i hi).1;have e:i=Bo:=e;omega)
 have hc2:Chg (fun b=>b=Bo) w (w1.setCell ⟨Bo,0,none⟩ (.slice p q.length z)):=(hf.chg _).trans hst fun _ _ h=>h
 clear hu hst hn1 ho1 HC c0
 go_wp2_with fail
 go_ret2
 exact⟨rfl,_,ho2,hu2,hc2⟩
set_option maxRecDepth 512
set_option maxRecDepth 100000
theorem readT_yes(B base n k Bn Bo:Nat)(ov:Value)(l:List UInt8)(w:World)(hc:CurF w 242 B base l n 0)(hn:w.heap[Bn]?=some (.cells #[N k] 3 (0,0)))(ho:w.heap[Bo]?=some (.cells #[ov] 22 (0,0)))(hne:Bn≠Bo)(hk:n+k<=l.length)(hl:l.length<=1000000)(hb:base<=w.heap.size) :
  Calls Tryz.prog 207 #[.pointer (some ⟨B,0,none⟩),.func (.func 265) #[] #[.pointer (some ⟨Bn,0,none⟩),.pointer (some ⟨Bo,0,none⟩)]] w fun e w'=>e=.returned (.bool true)/\∃ u,w'.heap[Bo]?=some (.cells #[u] 22 (0,0))/\Ow w' w.heap.size eB u ((l.drop n).take k)/\CurF w' 242 B base l (n+k) 0/\Chg (fun b=>b=Bo\/b=B) w w':=by
 have HE:=hid (CErr_any B base n 0 l w hc)
 have HR:=hid (rest_any B base n 0 l w hc)
 have hdl:(l.drop n).length=l.length - n:=List.length_drop ..
 have HT:=hid (fun W v (hf:Fr w W) (hs:See W eB v (l.drop n))=>take1_yes Bn Bo k v ov (l.drop n) W (hf.heap hn) (hf.heap ho) hne hs (by omega) (by omega))
 obtain⟨⟨v,h1,hO⟩,hle⟩:=hc
 have hBB:B≠Bo:=fun e=>by rw [e,ho]at h1;cases h1
 have hBw:B<w.heap.size:=(Array.getElem?_eq_some_iff.1 h1).1
 have hBow:Bo<w.heap.size:=(Array.getElem?_eq_some_iff.1 ho).1
 have hvB:=hO.ne_cells h1 (by decide)
 have hvBo:=hO.ne_cells ho (by decide)
 have hw1:IntKind.i64.wrap ((n:Int)+k)=(n:Int)+k:=IntWalk.i64_in _ (by omega)
 clear hn hdl
 generalize (l.drop n).take k=q at *
 generalize l.length - n=m at *
 go_enter Tryz.func207, Tryz.ntmps207
 go_wp2_with fail
 refine(HE.out).mono ?_
 rintro e w1 ⟨rfl,rfl⟩
 go_wp2_with fail
 refine(HR.out).mono ?_
 rintro e w2 ⟨a,cap,rfl,hs2,hf2⟩
 have HT2:=hid (HT.out w2 _ hf2 hs2)
 go_wp2_with fail
 refine(HT2.out).mono ?_
 rintro e w3 ⟨rfl,u,hu3,hO3,hc3⟩
 have h13:=hc3.heap (hf2.heap h1) hBB
 have hOv:=(hO.fr hf2).chg hc3 (fun i hi e=>hvBo (by rw [hi,show i=Bo from e]))
 have c1:w3.cell? ⟨B,1,none⟩=some (N n):=by rw [cell_of_heap h13];rfl
 have z1:=frozen_of_heap h13 1
 have hst:=setCell_chg w3 ⟨B,1,none⟩ (.int .i64 ((n:Int)+k))
 have h14:=heap_setCell_own h13 1 (.int .i64 ((n:Int)+k))
 have hu4:=hst.heap hu3 (fun e=>hBB e.symm)
 have hO4:=hO3.chg hst (fun i hi e=>(hO3.ne_cells h13 (by decide)) (by rw [hi,show i=B from e]))
 have hOv4:=hOv.chg hst (fun i hi e=>hvB (by rw [hi,show i=B from e]))
 have hcc:Chg (fun b=>b=Bo\/b=B) w (w3.setCell ⟨B,1,none⟩ (.int .i64 ((n:Int)+k))):=((hf2.chg _).trans (hc3.mono fun _ _ h=>.inl h) fun _ _ h=>h).trans hst fun _ _ h=>.inr h
 clear HE HR HT HT2 hs2 hu3 hO3 h13 hOv hst
 go_wp2_with fail
 go_ret
 exact⟨rfl,u,hu4,hO4.rebase hf2.size,⟨⟨v,h14,hOv4⟩,hk⟩,hcc⟩
set_option maxRecDepth 512
set_option maxRecDepth 100000
theorem Take_yes(B base n k:Nat)(l:List UInt8)(w:World)(hc:CurF w 242 B base l n 0)(hk:n+k<=l.length)(hl:l.length<=1000000)(hb:base<=w.heap.size) :
  Calls Tryz.prog 204 #[.pointer (some ⟨B,0,none⟩),N k] w fun e w'=>∃ u,e=.returned u/\Ow w' w.heap.size eB u ((l.drop n).take k)/\CurF w' 242 B base l (n+k) 0/\Chg (fun b=>b=B) w w':=by
 have hmf:∀ (fn:Fn) (first cap:Array Value) (w:World),(Instr.makeFunc fn first cap).run Tryz.prog w=.ok (.func fn first cap) w:=fun _ _ _ _=>rfl
 have hBw:B<w.heap.size:=by obtain⟨⟨v,h1,_⟩,_⟩:=hc;exact(Array.getElem?_eq_some_iff.1 h1).1
 have g0:((w.alloc (.cells #[N k] 3)).alloc (.cells #[.slice none 0 0] 22)).heap[w.heap.size]?=some (.cells #[N k] 3 (0,0)):=by
  rw [heap_old _ _ _ (by simp),heap_new _ _ _ rfl]
 have g1:((w.alloc (.cells #[N k] 3)).alloc (.cells #[.slice none 0 0] 22)).heap[w.heap.size+1]?=some (.cells #[.slice none 0 0] 22 (0,0)):=heap_new _ _ _ (by simp)
 have hf:Fr w ((w.alloc (.cells #[N k] 3)).alloc (.cells #[.slice none 0 0] 22)):=((Fr.refl w).alloc _).alloc _
 have HR:=hid (readT_yes B base n k w.heap.size (w.heap.size+1) (.slice none 0 0) l _ (hc.fr hf) g0 g1 (by omega) hk hl (Nat.le_trans hb hf.size))
 have hsz:w.heap.size<=((w.alloc (.cells #[N k] 3)).alloc (.cells #[.slice none 0 0] 22)).heap.size:=hf.size
 clear g0 g1 hc
 generalize (l.drop n).take k=q at *
 go_enter Tryz.func204, Tryz.ntmps204
 go_wp2_with fail
 refine(HR.out).mono ?_
 rintro e w3 ⟨rfl,u,hu,hO,hC,hch⟩
 have c1:w3.cell? ⟨w.heap.size+1,0,none⟩=some u:=by rw [cell_of_heap hu];rfl
 have hfin:Chg (fun b=>b=B) w w3:=(hf.chg _).trans (G':=fun b=>b=w.heap.size+1\/b=B) hch fun i hi h=>by
  rcases h with h | h
  · omega
  · exact h
 have hO2:=hO.rebase hsz
 obtain⟨p,z,hq⟩:=hO.shape'
 subst hq
 clear HR hu hO hch
 go_wp2_with fail
 go_ret
 exact⟨_,rfl,hO2,hC,hfin⟩
set_option maxRecDepth 512
theorem or_u64n(a b:Nat)(ha:a<18446744073709551616)(hb:b<18446744073709551616):bits .or .u64 (a:Int) (b:Int)=((a ||| b:Nat):Int):=by
 have hx:a ||| b<2 ^ 64:=Nat.or_lt_two_pow (by omega) (by omega)
 show IntKind.u64.wrap ((BitVec.ofInt 64 (a:Int) ||| BitVec.ofInt 64 (b:Int)).toNat:Int)=_
 rw [BitVec.toNat_or,of_int 64 a (by omega),of_int 64 b (by omega)]
 exact IntWalk.u64_in _ (by omega)
set_option maxRecDepth 100000
theorem scan_any (v : Value) (l : List UInt8) (w : World) (hs : See w eB v l) (hl : l.length ≤ 1000000) :
    Calls Tryz.prog 271 #[v] w fun e w'=>e=.returned (.tuple #[.int .u64 ((numL l).1:Int),N (numL l).2.1,.int .i64 ((numL l).2.2:Int)])/\w=w':=by
  obtain⟨a0,cap,hv,_⟩:=hs.shape
  subst hv
  have HS:=hid hs
  have HN:Hid (numL l=numGo 0 0 (l.drop 0)):=rfl
  clear hs
  generalize numL l=R at *
  go_enter Tryz.func271, Tryz.ntmps271
  go_wp2_with fail
  go_loop [2,9] (fun xv iv=>∃ i x:Nat,i<=l.length/\i<=9/\iv=N i/\xv=.int .u64 (x:Int)/\Hid (x<128 ^ i)/\Hid (R=numGo i x (l.drop i))) (fun _ iv=>l.length - (intOf iv).toNat)
  case atStart=>exact⟨0,0,Nat.zero_le _,by omega,rfl,rfl,by show 0<_;decide,HN.out⟩
  case round=>
    obtain⟨i,x,hi,hi9,rfl,rfl,HX,HR⟩:=hrel
    clear HN
    by_cases hlt:i<l.length
    · obtain⟨b,off,cp,hv,c0⟩:=HS.out.cell1 Fk.u8 rfl i hlt
      cases hv
      have d0:w.cell? ⟨b,off+i,none⟩=some (.int .u8 (l[i].toNat:Int)):=c0
      have HR2:=hid (numGo_step l i x hlt)
      have hcb:=l[i].toNat_lt
      clear c0
      generalize l[i].toNat=c at *
      have i1:(i:Int)<l.length:=by omega
      have i2:(0:Int)<=i:=by omega
      by_cases hf:(i=9/\¬c=1)\/(0<i/\c=0)
      · have HE:Hid (R=(0,0,2)):=by show _=_;rw [HR.out,HR2.out,if_pos hf]
        clear HR HR2 HX
        by_cases h9:i=9
        · subst h9
          by_cases h1:c=1
          · omega
          · have k1:¬(c:Int)=1:=by omega
            clear hf h1
            go_wp2_with fail
            go_ret3
            rw [HE.out]
            exact⟨rfl,rfl⟩
        · have k0:¬(i:Int)=9:=by omega
          have k1:(0:Int)<i:=by omega
          have k2:c=0:=by omega
          subst k2
          clear hf h9
          go_wp2_with fail
          go_ret3
          rw [HE.out]
          exact⟨rfl,rfl⟩
      · have hf2:¬(i=9/\¬c=1):=fun h=>hf (.inl h)
        have hnx:=num_next i c x hi9 hcb HX.out hf2
        have hand:=andnot_u8 c hcb
        have HP:=hid (pow128_two i)
        have hm128:c % 128<128:=Nat.mod_lt _ (by omega)
        have w1:IntKind.u64.wrap ((c % 128:Nat):Int)=((c % 128:Nat):Int):=IntWalk.u64_in _ (by omega)
        have w2:IntKind.i64.wrap (7*(i:Int))=7*(i:Int):=IntWalk.i64_in _ (by omega)
        have w3:IntKind.u64.wrap (((c % 128:Nat):Int)*2 ^ (7*i))=((c % 128*128 ^ i:Nat):Int):=by
          rw [IntWalk.u64_in _ (by rw [show((c % 128:Nat):Int)*2 ^ (7*i)=((c % 128*2 ^ (7*i):Nat):Int) by simp,<- HP.out];omega),HP.out];simp
        have w4:bits .or .u64 (x:Int) ((c % 128*128 ^ i:Nat):Int)=((x+c % 128*128 ^ i:Nat):Int):=by
          rw [or_u64n _ _ (by omega) (by omega),HP.out,leN_or _ _ _ (by rw [<- HP.out];exact HX.out)]
        have s1:¬(7*(i:Int))<0:=by omega
        have s2:(7*(i:Int)).toNat=7*i:=by omega
        by_cases h9:i=9
        · have hc1:c=1:=by omega
          have hx9:=HX.out
          subst h9 hc1
          have e9:(128:Nat) ^ 9=9223372036854775808:=by decide
          rw [e9]at hx9
          have w5:bits .or .u64 (x:Int) (IntKind.u64.wrap (IntKind.u64.wrap (bits .andNot .u8 1 128)*9223372036854775808))=((x+9223372036854775808:Nat):Int):=by
            rw [show IntKind.u64.wrap (IntKind.u64.wrap (bits .andNot .u8 1 128)*9223372036854775808)=((1*2 ^ 63:Nat):Int)from by decide +kernel,or_u64n _ _ (by omega) (by decide),leN_or _ _ _ (by omega)]
          have HE:Hid (R=(x+9223372036854775808,10,0)):=by
            show _=_;rw [HR.out,HR2.out,if_neg hf,if_pos (by omega),e9]
          have HW:=hid w5
          clear w1 w2 w3 w4 w5 s1 s2 hand hm128 hnx hf hf2 HR HR2 HX hx9 e9
          go_wp2_with fail
          go_ret3
          rw [HE.out,HW.out]
          exact⟨rfl,rfl⟩
        have k0:¬(i:Int)=9:=by omega
        have HNx:=hid hnx.1
        have hi8:i<=8:=by omega
        have HR3:Hid (R=if c<128 then(x+c % 128*128 ^ i,i+1,0)else numGo (i+1) (x+c % 128*128 ^ i) (l.drop (i+1))):=by show _=_;rw [HR.out,HR2.out,if_neg hf]
        have HF:=hid hf
        clear HR HR2 hf hnx hf2 h9 hi9
        generalize c % 128*128 ^ i=y at *
        generalize hcm:c % 128=cm at *
        have HCm:=hid hcm
        clear hcm
        by_cases hi0:0<i
        · have k1:(0:Int)<i:=by omega
          have k2:¬(c:Int)=0:=by have:=HF.out;omega
          clear HF
          by_cases hc:c<128
          · have k3:(c:Int)<128:=by omega
            have HE:Hid (R=(x+y,i+1,0)):=by show _=_;rw [HR3.out,if_pos hc]
            clear HR3
            go_wp2_with fail
            go_ret3
            rw [HE.out]
            exact⟨by simp [N],rfl⟩
          · have k3:¬(c:Int)<128:=by omega
            have HE:Hid (R=numGo (i+1) (x+y) (l.drop (i+1))):=by show _=_;rw [HR3.out,if_neg hc]
            clear HR3
            go_wp2_with fail
            go_round
            case rel=>exact⟨i+1,x+y,by omega,by omega,by go_num,rfl,HNx.out,HE.out⟩
            case measure=>simp [intOf];omega
        · have k1:¬(0:Int)<i:=by omega
          clear HF
          by_cases hc:c<128
          · have k3:(c:Int)<128:=by omega
            have HE:Hid (R=(x+y,i+1,0)):=by show _=_;rw [HR3.out,if_pos hc]
            clear HR3
            go_wp2_with fail
            go_ret3
            rw [HE.out]
            exact⟨by simp [N],rfl⟩
          · have k3:¬(c:Int)<128:=by omega
            have HE:Hid (R=numGo (i+1) (x+y) (l.drop (i+1))):=by show _=_;rw [HR3.out,if_neg hc]
            clear HR3
            go_wp2_with fail
            go_round
            case rel=>exact⟨i+1,x+y,by omega,by omega,by go_num,rfl,HNx.out,HE.out⟩
            case measure=>simp [intOf];omega
    · obtain rfl:i=l.length:=by omega
      have hnl:¬((l.length:Int)<l.length):=by omega
      have HE:Hid (R=(0,0,1)):=by show _=_;rw [HR.out,numGo_end l _ x (Nat.le_refl _)]
      clear HR HX
      go_wp2_with fail
      go_ret3
      rw [HE.out]
      exact⟨rfl,rfl⟩
set_option maxRecDepth 512
set_option maxRecDepth 100000
theorem read_no(fv:Value)(B base n er:Nat)(l:List UInt8)(w:World)(hc:CurF w 242 B base l n er)(he:¬er=0) :
  Calls Tryz.prog 207 #[.pointer (some ⟨B,0,none⟩),fv] w fun e w'=>e=.returned (.bool false)/\w=w':=by
 have HE:=hid (CErr_any B base n er l w hc)
 have h1:¬(er:Int)=0:=by omega
 clear hc
 go_enter Tryz.func207, Tryz.ntmps207
 go_wp2_with fail
 refine(HE.out).mono ?_
 rintro e w1 ⟨rfl,rfl⟩
 go_wp2_with fail
 go_ret
 exact⟨rfl,rfl⟩
theorem read_at(fn:Nat)(cap:List Value)(hfn:(fn=279/\∃ a,cap=[a])\/(fn=208/\∃ a b,cap=[a,b])\/(fn=265/\∃ a b,cap=[a,b])\/(fn=280/\∃ a b,cap=[a,b]))(G:Nat->Prop)(Q:World->Prop)(B base n k er:Nat)(l:List UInt8)(w:World)(hc:CurF w 242 B base l n 0)
  (HT:Hid (∀ W v,Fr w W->See W eB v (l.drop n)->Calls Tryz.prog fn (v::cap).toArray W fun e w'=>e=.returned (.tuple #[N k,.int .i64 (er:Int)])/\Q w'/\Chg G W w'))
  (hk:er=0->n+k<=l.length) (hG:∀ g,G g->g≠B/\∃ cs T f,w.heap[g]?=some (.cells cs T f)/\T≠5) (hl:l.length<=1000000) :
  Calls Tryz.prog 207 #[.pointer (some ⟨B,0,none⟩),.func (.func fn) #[] cap.toArray] w fun e w'=>e=.returned (.bool (decide (er=0)))/\∃ w3,Q w3/\Chg G w w3/\Chg (fun b=>b=B) w3 w'/\CurF w' 242 B base l (if er=0 then n+k else n) er:=by
 have HE:=hid (CErr_any B base n 0 l w hc)
 have HR:=hid (rest_any B base n 0 l w hc)
 obtain⟨⟨v,h1,hO⟩,hle⟩:=hc
 have hBG:¬G B:=fun h=>(hG B h).1 rfl
 have hvG:∀ i,v.ownBlock=some i->¬G i:=fun i hi h=>by
  obtain⟨_,cs,T,f,h2,h3⟩:=hG i h
  exact hO.ne_cells h2 h3 hi
 have hvB:=hO.ne_cells h1 (by decide)
 clear hG
 generalize l.length - n=m at *
 go_enter Tryz.func207, Tryz.ntmps207
 go_wp2_with fail
 refine(HE.out).mono ?_
 rintro e w1 ⟨rfl,rfl⟩
 go_wp2_with fail
 refine(HR.out).mono ?_
 rintro e w2 ⟨a,cp,rfl,hs2,hf2⟩
 have HX:Hid (Calls Tryz.prog fn (.slice a m cp::cap).toArray w2 (fun e w'=>e=.returned (.tuple #[N k,.int .i64 (er:Int)])/\Q w'/\Chg G w2 w')):=HT.out w2 _ hf2 hs2
 rcases hfn with⟨rfl,c1,rfl⟩ | ⟨rfl,c1,c2,rfl⟩ | ⟨rfl,c1,c2,rfl⟩ | ⟨rfl,c1,c2,rfl⟩
 all_goals go_wp2_with fail
 all_goals refine(HX.out).mono ?_
 all_goals rintro e w3 ⟨rfl,hq,hc3⟩
 all_goals
  have h13:=hc3.heap (hf2.heap h1) hBG
  have hOv:=(hO.fr hf2).chg hc3 hvG
  have hcc:Chg G w w3:=(hf2.chg _).trans hc3 fun _ _ h=>h
  clear HE HR HT HX hs2
  by_cases he:er=0
  · subst he
    have hk1:=hk rfl
    have hw1:IntKind.i64.wrap ((n:Int)+k)=(n:Int)+k:=IntWalk.i64_in _ (by omega)
    have c1:w3.cell? ⟨B,1,none⟩=some (N n):=by rw [cell_of_heap h13];rfl
    have z1:=frozen_of_heap h13 1
    have hst:=setCell_chg w3 ⟨B,1,none⟩ (.int .i64 ((n:Int)+k))
    have h14:=heap_setCell_own h13 1 (.int .i64 ((n:Int)+k))
    have hOv4:=hOv.chg hst (fun i hi e=>hvB (by rw [hi,show i=B from e]))
    clear hOv
    go_wp2_with fail
    go_ret
    exact⟨rfl,w3,hq,hcc,hst,⟨v,h14,hOv4⟩,hk1⟩
  · have he1:¬(er:Int)=0:=by omega
    have c1:w3.cell? ⟨B,2,none⟩=some (.int .i64 0):=by rw [cell_of_heap h13];rfl
    have z1:=frozen_of_heap h13 2
    have hst:=setCell_chg w3 ⟨B,2,none⟩ (.int .i64 (er:Int))
    have h14:=heap_setCell_own h13 2 (.int .i64 (er:Int))
    have hOv4:=hOv.chg hst (fun i hi e=>hvB (by rw [hi,show i=B from e]))
    clear hOv
    go_wp2_with fail
    go_ret
    exact⟨rfl,w3,hq,hcc,hst,⟨v,h14,hOv4⟩,hle⟩
set_option maxRecDepth 512
theorem read_any(fn:Nat)(cap:List Value)(hfn:(fn=279/\∃ a,cap=[a])\/(fn=208/\∃ a b,cap=[a,b])\/(fn=265/\∃ a b,cap=[a,b])\/(fn=280/\∃ a b,cap=[a,b]))(G:Nat->Prop)(Q:World->Prop)(B base:Nat)(s:Cs)(r:Nat × Nat × Nat)(l:List UInt8)(w:World)(hc:CurF w 242 B base l s.at_ s.er)
  (HT:Hid (∀ W v,Fr w W->See W eB v (l.drop s.at_)->Calls Tryz.prog fn (v::cap).toArray W fun e w'=>e=.returned (.tuple #[N r.2.1,.int .i64 (r.2.2:Int)])/\Q w'/\Chg G W w'))
  (hk:r.2.2=0->s.at_+r.2.1<=l.length) (hG:∀ g,G g->g≠B/\∃ cs T f,w.heap[g]?=some (.cells cs T f)/\T≠5) (hl:l.length<=1000000) :
  Calls Tryz.prog 207 #[.pointer (some ⟨B,0,none⟩),.func (.func fn) #[] cap.toArray] w fun e w'=>e=.returned (.bool (decide (s.er=0/\r.2.2=0)))/\(¬s.er=0->w=w')/\∃ w3,(s.er=0->Q w3)/\Chg G w w3/\Chg (fun b=>b=B) w3 w'/\CurF w' 242 B base l (s.step r).at_ (s.step r).er:=by
 by_cases h0:s.er=0
 · rw [h0]at hc
   refine(read_at fn cap hfn G Q B base s.at_ r.2.1 r.2.2 l w hc HT hk hG hl).mono ?_
   rintro e w1 ⟨rfl,w3,hq,h1,h2,h3⟩
   refine⟨by simp [h0],fun h=>absurd h0 h,w3,fun _=>hq,h1,h2,?_⟩
   unfold Cs.step
   rw [if_pos h0]
   by_cases hr:r.2.2=0
   · rw [if_pos hr]at h3 ⊢;rw [hr]at h3;exact h3
   · rw [if_neg hr]at h3 ⊢;exact h3
 · refine(read_no _ B base s.at_ s.er l w hc h0).mono ?_
   rintro e w1 ⟨rfl,rfl⟩
   refine⟨by simp [h0],fun _=>rfl,w,fun h=>absurd h h0,Chg.refl _ _,Chg.refl _ _,?_⟩
   unfold Cs.step
   rw [if_neg h0];exact hc
set_option maxRecDepth 100000
theorem limited_any(most:Nat)(hm:most<9223372036854775808)(v:Value)(l:List UInt8)(w:World)(hs:See w eB v l)(hl:l.length<=1000000) :
  Calls Tryz.prog 209 #[v,N most] w fun e w'=>e=.returned (.tuple #[N (limL most l).1,N (limL most l).2.1,.int .i64 ((limL most l).2.2:Int)])/\w=w':=by
 have HS:=hid (scan_any v l w hs hl)
 have hlt:=numL_lt l
 have HL:Hid (limL most l=if(numL l).2.2=0 then(if most<(numL l).1 then(0,0,6)else numL l)else(0,0,(numL l).2.2)):=rfl
 obtain⟨a0,cap,hv,_⟩:=hs.shape
 subst hv
 clear hs
 generalize limL most l=R at *
 generalize numL l=q at *
 obtain⟨x,n,er⟩:=q
 by_cases h0:er=0
 · subst h0
   have h1:¬(most:Int)<0:=by omega
   by_cases h2:most<x
   · have HE:Hid (R=(0,0,6)):=by show _=_;rw [HL.out,if_pos rfl,if_pos h2]
     have h3:(most:Int)<x:=by omega
     have HM:=hid hm
     have hw1:IntKind.u64.wrap (most:Int)=(most:Int):=IntWalk.u64_in _ (by omega)
     clear HL
     go_enter Tryz.func209, Tryz.ntmps209
     go_wp2_with fail
     refine(HS.out).mono ?_
     rintro e w1 ⟨rfl,rfl⟩
     go_wp2_with fail
     go_ret3
     rw [HE.out]
     exact⟨rfl,rfl⟩
   · have HE:Hid (R=(x,n,0)):=by show _=_;rw [HL.out,if_pos rfl,if_neg h2]
     have h3:¬(most:Int)<x:=by omega
     have hw1:IntKind.u64.wrap (most:Int)=(most:Int):=IntWalk.u64_in _ (by omega)
     have hw2:IntKind.i64.wrap (x:Int)=(x:Int):=IntWalk.i64_in _ (by omega)
     clear HL
     go_enter Tryz.func209, Tryz.ntmps209
     go_wp2_with fail
     refine(HS.out).mono ?_
     rintro e w1 ⟨rfl,rfl⟩
     go_wp2_with fail
     go_ret3
     rw [HE.out]
     exact⟨rfl,rfl⟩
 · have HE:Hid (R=(0,0,er)):=by show _=_;rw [HL.out];simp only;rw [if_neg h0]
   have h3:¬(er:Int)=0:=by omega
   clear HL
   go_enter Tryz.func209, Tryz.ntmps209
   go_wp2_with fail
   refine(HS.out).mono ?_
   rintro e w1 ⟨rfl,rfl⟩
   go_wp2_with fail
   go_ret3
   rw [HE.out]
   exact⟨rfl,rfl⟩
theorem num1_any(Bx:Nat)(xv v:Value)(l:List UInt8)(w:World)(hx:w.heap[Bx]?=some (.cells #[xv] 61 (0,0)))(hs:See w eB v l)(hl:l.length<=1000000) :
  Calls Tryz.prog 279 #[v,.pointer (some ⟨Bx,0,none⟩)] w fun e w'=>e=.returned (.tuple #[N (numL l).2.1,.int .i64 ((numL l).2.2:Int)])/\w'.heap[Bx]?=some (.cells #[.int .u64 ((numL l).1:Int)] 61 (0,0))/\Chg (fun b=>b=Bx) w w':=by
 have HS:=hid (scan_any v l w hs hl)
 have c0:w.cell? ⟨Bx,0,none⟩=some xv:=by rw [cell_of_heap hx];rfl
 have z0:=frozen_of_heap hx 0
 have hst:=setCell_chg w ⟨Bx,0,none⟩ (.int .u64 ((numL l).1:Int))
 have h1:=heap_setCell_own hx 0 (.int .u64 ((numL l).1:Int))
 obtain⟨a0,cap,hv,_⟩:=hs.shape
 subst hv
 clear hs
 generalize numL l=q at *
 go_enter Tryz.func279, Tryz.ntmps279
 go_wp2_with fail
 refine(HS.out).mono ?_
 rintro e w1 ⟨rfl,rfl⟩
 go_wp2_with fail
 go_ret2
 exact⟨rfl,h1,hst⟩
theorem int1_any(most:Nat)(hm:most<9223372036854775808)(Bm Bx:Nat)(xv v:Value)(l:List UInt8)(w:World)(hmo:w.heap[Bm]?=some (.cells #[N most] 3 (0,0)))(hx:w.heap[Bx]?=some (.cells #[xv] 3 (0,0)))(hs:See w eB v l)(hl:l.length<=1000000) :
  Calls Tryz.prog 208 #[v,.pointer (some ⟨Bm,0,none⟩),.pointer (some ⟨Bx,0,none⟩)] w fun e w'=>e=.returned (.tuple #[N (limL most l).2.1,.int .i64 ((limL most l).2.2:Int)])/\w'.heap[Bx]?=some (.cells #[N (limL most l).1] 3 (0,0))/\Chg (fun b=>b=Bx) w w':=by
 have HS:=hid (limited_any most hm v l w hs hl)
 have m0:w.cell? ⟨Bm,0,none⟩=some (N most):=by rw [cell_of_heap hmo];rfl
 have c0:w.cell? ⟨Bx,0,none⟩=some xv:=by rw [cell_of_heap hx];rfl
 have z0:=frozen_of_heap hx 0
 have hst:=setCell_chg w ⟨Bx,0,none⟩ (N (limL most l).1)
 have h1:=heap_setCell_own hx 0 (N (limL most l).1)
 obtain⟨a0,cap,hv,_⟩:=hs.shape
 subst hv
 clear hs
 generalize limL most l=q at *
 go_enter Tryz.func208, Tryz.ntmps208
 go_wp2_with fail
 refine(HS.out).mono ?_
 rintro e w1 ⟨rfl,rfl⟩
 go_wp2_with fail
 go_ret2
 exact⟨rfl,h1,hst⟩
theorem Num_cur(B base:Nat)(s:Cs)(l:List UInt8)(w:World)(hc:CurF w 242 B base l s.at_ s.er)(hl:l.length<=1000000) :
  Calls Tryz.prog 222 #[.pointer (some ⟨B,0,none⟩)] w fun e w'=>e=.returned (.int .u64 ((s.num l).1:Int))/\CurF w' 242 B base l (s.num l).2.at_ (s.num l).2.er/\Chg (fun b=>b=B) w w':=by
 have hmf:∀ (fn:Fn) (first cap:Array Value) (w:World),(Instr.makeFunc fn first cap).run Tryz.prog w=.ok (.func fn first cap) w:=fun _ _ _ _=>rfl
 have hBw:B<w.heap.size:=by obtain⟨⟨v,h1,_⟩,_⟩:=hc;exact(Array.getElem?_eq_some_iff.1 h1).1
 have g0:(w.alloc (.cells #[.int .u64 0] 61)).heap[w.heap.size]?=some (.cells #[.int .u64 0] 61 (0,0)):=heap_new _ _ _ rfl
 have hf:Fr w (w.alloc (.cells #[.int .u64 0] 61)):=(Fr.refl w).alloc _
 have hdl:(l.drop s.at_).length<=1000000:=by rw [List.length_drop];omega
 have hle:s.at_<=l.length:=hc.le
 have HR := hid (read_any 279 [.pointer (some ⟨w.heap.size, 0, none⟩)] (.inl ⟨rfl, _, rfl⟩) (fun b => b = w.heap.size) (fun W => W.heap[w.heap.size]? = some (.cells #[.int .u64 ((numL (l.drop s.at_)).1 : Int)] 61 (0, 0))) B base s (numL (l.drop s.at_)) l _ (hc.fr hf)
  (hid fun W v hW hs => (num1_any w.heap.size _ v _ W (hW.heap g0) hs hdl)) (fun h => by have := numL_ok _ h; rw [List.length_drop] at this; omega)
  (by intro g hg; obtain rfl : g = w.heap.size := hg; exact ⟨by omega, _, _, _, g0, by decide⟩) hl)
 have HN:Hid (s.num l=(s.val (numL (l.drop s.at_)),s.step (numL (l.drop s.at_)))):=rfl
 have HV:Hid (s.val (numL (l.drop s.at_))=if s.er=0/\(numL (l.drop s.at_)).2.2=0 then(numL (l.drop s.at_)).1 else 0):=rfl
 rw [HN.out]
 clear g0 hc hdl hle HN
 generalize s.step (numL (l.drop s.at_))=s2 at *
 generalize s.val (numL (l.drop s.at_))=x2 at *
 generalize numL (l.drop s.at_)=q at *
 by_cases hk:s.er=0/\q.2.2=0
 · rw [decide_eq_true hk]at HR
   rw [if_pos hk]at HV
   have h0:=hid hk.1
   clear hk
   go_enter Tryz.func222, Tryz.ntmps222
   go_wp2_with fail
   refine(HR.out).mono ?_
   rintro e w3 ⟨rfl,_,w2,hQ,hg1,hg2,hC⟩
   have hx:=hg2.heap (hQ h0.out) (by omega)
   have c1:w3.cell? ⟨w.heap.size,0,none⟩=some (.int .u64 (q.1:Int)):=by rw [cell_of_heap hx];rfl
   have hfin:Chg (fun b=>b=B) w w3:=((hf.chg _).trans (G':=fun b=>b=w.heap.size) hg1 fun i hi h=>by omega).trans hg2 fun i _ h=>h
   clear HR hg1 hg2 hQ hx
   go_wp2_with fail
   go_ret
   rw [HV.out]
   exact⟨rfl,hC,hfin⟩
 · rw [decide_eq_false hk]at HR
   rw [if_neg hk]at HV
   clear hk
   go_enter Tryz.func222, Tryz.ntmps222
   go_wp2_with fail
   refine(HR.out).mono ?_
   rintro e w3 ⟨rfl,_,w2,hQ,hg1,hg2,hC⟩
   have hfin:Chg (fun b=>b=B) w w3:=((hf.chg _).trans (G':=fun b=>b=w.heap.size) hg1 fun i hi h=>by omega).trans hg2 fun i _ h=>h
   clear HR hg1 hg2 hQ
   go_wp2_with fail
   go_ret
   rw [HV.out]
   exact⟨rfl,hC,hfin⟩
theorem Int_cur(most:Nat)(hm:most<9223372036854775808)(B base:Nat)(s:Cs)(l:List UInt8)(w:World)(hc:CurF w 242 B base l s.at_ s.er)(hl:l.length<=1000000) :
  Calls Tryz.prog 146 #[.pointer (some ⟨B,0,none⟩),N most] w fun e w'=>e=.returned (N (s.int l most).1)/\CurF w' 242 B base l (s.int l most).2.at_ (s.int l most).2.er/\Chg (fun b=>b=B) w w':=by
 have hmf:∀ (fn:Fn) (first cap:Array Value) (w:World),(Instr.makeFunc fn first cap).run Tryz.prog w=.ok (.func fn first cap) w:=fun _ _ _ _=>rfl
 have hBw:B<w.heap.size:=by obtain⟨⟨v,h1,_⟩,_⟩:=hc;exact(Array.getElem?_eq_some_iff.1 h1).1
 have g0:((w.alloc (.cells #[N most] 3)).alloc (.cells #[.int .i64 0] 3)).heap[w.heap.size]?=some (.cells #[N most] 3 (0,0)):=by
  rw [heap_old _ _ _ (by simp),heap_new _ _ _ rfl]
 have g1:((w.alloc (.cells #[N most] 3)).alloc (.cells #[.int .i64 0] 3)).heap[w.heap.size+1]?=some (.cells #[.int .i64 0] 3 (0,0)):=heap_new _ _ _ (by simp)
 have hf:Fr w ((w.alloc (.cells #[N most] 3)).alloc (.cells #[.int .i64 0] 3)):=((Fr.refl w).alloc _).alloc _
 have hdl:(l.drop s.at_).length<=1000000:=by rw [List.length_drop];omega
 have hle:s.at_<=l.length:=hc.le
 have HR := hid (read_any 208 [.pointer (some ⟨w.heap.size, 0, none⟩), .pointer (some ⟨w.heap.size + 1, 0, none⟩)] (.inr (.inl ⟨rfl, _, _, rfl⟩)) (fun b => b = w.heap.size + 1) (fun W => W.heap[w.heap.size + 1]? = some (.cells #[N (limL most (l.drop s.at_)).1] 3 (0, 0))) B base s (limL most (l.drop s.at_)) l _ (hc.fr hf)
  (hid fun W v hW hs => (int1_any most hm w.heap.size (w.heap.size + 1) _ v _ W (hW.heap g0) (hW.heap g1) hs hdl)) (fun h => by have := limL_ok _ _ h; rw [List.length_drop] at this; omega)
  (by intro g hg; obtain rfl : g = w.heap.size + 1 := hg; exact ⟨by omega, _, _, _, g1, by decide⟩) hl)
 have HN:Hid (s.int l most=(s.val (limL most (l.drop s.at_)),s.step (limL most (l.drop s.at_)))):=rfl
 have HV:Hid (s.val (limL most (l.drop s.at_))=if s.er=0/\(limL most (l.drop s.at_)).2.2=0 then(limL most (l.drop s.at_)).1 else 0):=rfl
 rw [HN.out]
 clear g0 g1 hc hdl hle HN
 generalize s.step (limL most (l.drop s.at_))=s2 at *
 generalize s.val (limL most (l.drop s.at_))=x2 at *
 generalize limL most (l.drop s.at_)=q at *
 by_cases hk:s.er=0/\q.2.2=0
 · rw [decide_eq_true hk]at HR
   rw [if_pos hk]at HV
   have h0:=hid hk.1
   clear hk
   go_enter Tryz.func146, Tryz.ntmps146
   go_wp2_with fail
   refine(HR.out).mono ?_
   rintro e w3 ⟨rfl,_,w2,hQ,hg1,hg2,hC⟩
   have hx:=hg2.heap (hQ h0.out) (by omega)
   have c1:w3.cell? ⟨w.heap.size+1,0,none⟩=some (N q.1):=by rw [cell_of_heap hx];rfl
   have hfin:Chg (fun b=>b=B) w w3:=((hf.chg _).trans (G':=fun b=>b=w.heap.size+1) hg1 fun i hi h=>by omega).trans hg2 fun i _ h=>h
   clear HR hg1 hg2 hQ hx
   go_wp2_with fail
   go_ret
   rw [HV.out]
   exact⟨rfl,hC,hfin⟩
 · rw [decide_eq_false hk]at HR
   rw [if_neg hk]at HV
   clear hk
   go_enter Tryz.func146, Tryz.ntmps146
   go_wp2_with fail
   refine(HR.out).mono ?_
   rintro e w3 ⟨rfl,_,w2,hQ,hg1,hg2,hC⟩
   have hfin:Chg (fun b=>b=B) w w3:=((hf.chg _).trans (G':=fun b=>b=w.heap.size+1) hg1 fun i hi h=>by omega).trans hg2 fun i _ h=>h
   clear HR hg1 hg2 hQ
   go_wp2_with fail
   go_ret
   rw [HV.out]
   exact⟨rfl,hC,hfin⟩
set_option maxRecDepth 512
end Go.Proofs.YtghcmindankceaaGreatDoor
