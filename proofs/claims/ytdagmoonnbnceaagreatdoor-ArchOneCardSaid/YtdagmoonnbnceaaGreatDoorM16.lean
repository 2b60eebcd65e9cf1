/- Parts of the proof of ArchOne: L3 L4 Q1 E2 E3 Q2 E4 Q3 Q4 L6. -/
import Derived.Test.YtdagmoonnbnceaaGreatDoorM09
import Derived.Test.YtdagmoonnbnceaaGreatDoorM06
import Derived.Test.YtdagmoonnbnceaaGreatDoorM05
import Derived.Test.YtdagmoonnbnceaaGreatDoorM13
import Derived.Test.YtdagmoonnbnceaaGreatDoorM01
import Derived.Test.YtdagmoonnbnceaaGreatDoorM11
set_option linter.unusedVariables false
set_option linter.unusedSectionVars false
set_option linter.unusedSimpArgs false
set_option maxHeartbeats 8000000
set_option maxRecDepth 100000
namespace Go.Proofs.YtdagmoonnbnceaaGreatDoor
open Go.RowKit Go.Fk
def eIt:Elt Tryz.prog It:=⟨311,2,16,⟨0,false,[]⟩,.agg #[.int .u64 0,.bool false],fun x=>[.int .u64 (x.w.toNat:Int),.bool x.leaf],by kernel_rfl,by decide,by decide,by simp [Value.cells],fun _=>rfl,by intro x u hu;simp at hu;rcases hu with rfl | rfl <;> rfl⟩
def leavesL(often syms:List Nat):List It:=syms.map fun s=>⟨UInt64.ofNat (often.getD s 0),true,[s]⟩
theorem leavesL_len(often syms:List Nat):(leavesL often syms).length=syms.length:=by simp [leavesL]
theorem leavesL_leaf(often syms:List Nat):∀ x∈leavesL often syms,x.leaf=true:=by
 intro x hx
 obtain⟨s,_,rfl⟩:=List.mem_map.1 hx
 rfl
theorem leavesL_at(often syms:List Nat)(k:Nat)(h:k<syms.length):(leavesL often syms)[k]? = some ⟨UInt64.ofNat (often.getD syms[k] 0),true,[syms[k]]⟩:=by simp [leavesL,h]
theorem leaves_any(va vb:Value)(often syms:List Nat)(w:World)(ha:See w eV va often)(hb:See w eJ vb syms)(hn:syms.length<=1000000)(hs:∀ s∈syms,s<often.length)(h32:∀ x∈often,x<4294967296) :
  Calls Tryz.prog 190 #[va,vb] w fun e w'=>∃ v,e=.returned v/\Ow w' w.heap.size eIt v (leavesL often syms)/\Fr w w':=by
 obtain⟨a,cap,rfl,hcap1,hcap2,hnone⟩:=ha.shape
 obtain⟨a',cap',rfl,hcap1',hcap2',hnone'⟩:=hb.shape
 unfold maxLen at hcap2 hcap2'
 have hmk:=made_runE eIt 306 Tryz.underlying306 .i64 .i64 syms.length (by omega)
 have HOw:=hid (made_ownE (base:=w.heap.size) eIt syms.length (by omega) w (Nat.le_refl _))
 have HF0:=hid ((Fr.refl w).alloc (.cells (madeCells eIt.z.cells (syms.length*eIt.k)) eIt.e))
 have HLe:=hid (leavesL_len often syms)
 have HAt:=hid (leavesL_at often syms)
 generalize hR:leavesL often syms=R at *
 clear hR
 generalize hT:madeCells eIt.z.cells (syms.length*eIt.k)=T0 at *
 clear hT
 go_enter Tryz.func190, Tryz.ntmps190
 go_wp2_with fail
 rw [show(eIt:Elt Tryz.prog It).e=311 from rfl]at *
 have hF0:=HF0.out
 have hsz:(w.alloc (.cells T0 311)).heap.size=w.heap.size+1:=by simp
 have hO0:=HOw.out
 clear HF0 HOw
 generalize w.alloc (.cells T0 311)=W0 at *
 have HSZ:=hid hsz
 clear hsz
 go_loopw [13] (fun iv wr=>∃ k:Nat,k<=syms.length/\iv=N k/\Ow wr w.heap.size eIt (.slice (some ⟨w.heap.size,0,none⟩) syms.length syms.length) (R.take k++List.replicate (syms.length - k) (⟨0,false,[]⟩:It))/\Fr w wr) (fun iv _=>syms.length - (intOf iv).toNat)
 case atStart=>exact⟨0,Nat.zero_le _,rfl,by simp only [List.take_zero,List.nil_append,Nat.sub_zero];exact hO0,hF0⟩
 case round=>
  clear hO0 hF0
  obtain⟨k,hk,rfl,hO,hf⟩:=hrel
  by_cases hlt:k<syms.length
  · obtain⟨b,off,cp,hv,c1⟩:=jAt (hb.fr hf) k hlt
    have HA:=HAt.out k hlt
    have hso:=hs _ (List.getElem_mem hlt)
    generalize hsy:syms[k]=s at *
    obtain⟨b2,off2,cp2,hv2,c2⟩:=vAt (ha.fr hf) s hso
    have e2:often.getD s 0=often[s]:=by rw [List.getD_eq_getElem?_getD,List.getElem?_eq_getElem hso];rfl
    have h32':=h32 _ (List.getElem_mem hso)
    rw [e2]at HA
    generalize often[s]=x at *
    cases hv
    cases hv2
    have hlen:(R.take k++List.replicate (syms.length - k) (⟨0,false,[]⟩:It)).length=syms.length:=fill_len R _ _ _ HLe.out hk
    have hx64:((UInt64.ofNat x).toNat:Int)=x:=by rw [UInt64.toNat_ofNat'];omega
    have HSet:=hid (hO.set2 (fun y=>⟨_,_,rfl⟩) k (by rw [hlen];exact hlt) (⟨UInt64.ofNat x,true,[s]⟩:It) (.int .u64 (x:Int)) (.bool true) (by show [Value.int .u64 ((UInt64.ofNat x).toNat:Int),Value.bool true]=_;rw [hx64]))
    have HFil:=hid (fill_set R (⟨0,false,[]⟩:It) syms.length k HLe.out hlt ⟨UInt64.ofNat x,true,[s]⟩ (by rw [List.getElem?_eq_getElem (by rw [HLe.out];exact hlt)]at HA;exact Option.some.inj HA))
    obtain⟨u0,v0,d1,d2,d3⟩:∃ u v,wr.cell? ⟨w.heap.size,k*2,none⟩=some u/\wr.cell? ⟨w.heap.size,k*2+1,none⟩=some v/\(∀ j,wr.frozen? ⟨w.heap.size,j,none⟩=false):=⟨_,_,hO.cell2 k (by rw [hlen];exact hlt) _ _ rfl⟩
    have d4:=d3 (k*2)
    have d5:=d3 (k*2+1)
    clear d3
    have i1:(0:Int)<=k:=by omega
    have i2:(k:Int)<syms.length:=by omega
    have i3:(0:Int)<=s:=by omega
    have i4:(s:Int)<often.length:=by omega
    have HBe:=hid hsy
    have hxw:IntKind.u64.wrap (x:Int)=(x:Int):=IntWalk.u64_in _ (by omega)
    clear hsy HA hs h32 h32' hx64
    go_wp2_with fail
    go_roundw
    case rel=>exact⟨k+1,by omega,by go_num,by rw [<- HFil.out];exact HSet.out,set_below (set_below hf (Nat.le_refl _) hf.size) (Nat.le_refl _) (by simpa [World.setCell] using hf.size)⟩
    case measure=>simp [intOf];omega
  · obtain rfl:k=syms.length:=by omega
    have hnl:¬((syms.length:Int)<syms.length):=by omega
    have e:R.take syms.length++List.replicate (syms.length - syms.length) (⟨0,false,[]⟩:It)=R:=by rw [Nat.sub_self,List.replicate_zero,List.append_nil,<- HLe.out,List.take_length]
    rw [e]at hO
    go_wp2_with fail
    go_ret
    exact⟨_,rfl,hO,hf⟩
theorem itAt{w:World}{v:Value}{l:List It}(h:See w eIt v l)(k:Nat)(hk:k<l.length) :
  ∃ b off cap,v=.slice (some ⟨b,off,none⟩) l.length cap/\w.cell? ⟨b,off+k*2,none⟩=some (.int .u64 (l[k].w.toNat:Int))/\w.cell? ⟨b,off+k*2+1,none⟩=some (.bool l[k].leaf):=by
 obtain⟨b,off,cap,rfl,h1,h2,h3⟩:=h.cells (by intro e;simp [e]at hk)
 have e0:=h3 k hk 0 (by decide) _ rfl
 have e1:=h3 k hk 1 (by decide) _ rfl
 exact⟨b,off,cap,rfl,by simpa [eIt] using e0,by simpa [eIt,Nat.add_assoc] using e1⟩
theorem drop_pairs(row:List It)(k:Nat)(h:k+1<row.length):pairsI (row.drop k)=⟨row[k].w+row[k+1].w,false,row[k].syms++row[k+1].syms⟩::pairsI (row.drop (k+2)):=by
 rw [List.drop_eq_getElem_cons (by omega),List.drop_eq_getElem_cons h,pairsI]
theorem drop_pairs_end(row:List It)(k:Nat)(h:row.length<=k+1):pairsI (row.drop k)=[]:=by
 have hl:(row.drop k).length<=1:=by rw [List.length_drop];omega
 generalize row.drop k=r at *
 match r,hl with
 | [],_=>rfl
 | [_],_=>rfl
theorem u64_le(a b:UInt64):(a<=b)↔((a.toNat:Int)<=b.toNat):=by rw [UInt64.le_iff_toNat_le];omega
theorem u64_add(a b:UInt64):IntKind.u64.wrap ((a.toNat:Int)+b.toNat)=((a+b).toNat:Int):=by
 rw [IntKind.wrap_u64,UInt64.toNat_add];omega
theorem next_any(va vb:Value)(leaf row:List It)(w:World)(ha:See w eIt va leaf)(hb:See w eIt vb row)(hn:leaf.length<=1000000)(hm:row.length<=2000000) :
  Calls Tryz.prog 191 #[va,vb] w fun e w'=>∃ v,e=.returned v/\Ow w' w.heap.size eIt v (mergeI leaf (pairsI row))/\Fr w w':=by
 obtain⟨a,cap,rfl,hcap1,hcap2,hnone⟩:=ha.shape
 obtain⟨a',cap',rfl,hcap1',hcap2',hnone'⟩:=hb.shape
 unfold maxLen at hcap2 hcap2'
 have hml:=mergeI_len leaf (pairsI row)
 rw [pairsI_len]at hml
 have hcd:(row.length:Int).tdiv 2=((row.length / 2:Nat):Int):=by rw [Int.tdiv_eq_ediv_of_nonneg (by omega)];omega
 have hcd2:(row.length:Int) / 2=((row.length / 2:Nat):Int):=by omega
 have hsum:IntKind.i64.wrap ((leaf.length:Int)+((row.length / 2:Nat):Int))=((leaf.length+row.length / 2:Nat):Int):=by rw [IntWalk.i64_in _ (by omega)];omega
 have hc3:leaf.length+row.length / 2<=1000000000:=by omega
 have HE0:Hid (mergeI leaf (pairsI row)=[]++mergeI (leaf.drop 0) (pairsI (row.drop 0))):=by show _=_;simp
 have HML:=hid hml
 clear hml
 generalize mergeI leaf (pairsI row)=R at *
 generalize hcq:leaf.length+row.length / 2=C at *
 have HC:=hid hcq
 clear hcq
 generalize row.length / 2=rh at *
 go_enter Tryz.func191, Tryz.ntmps191
 go_wp2_with (refine wpList_make0 eIt rfl (.const (.int .i64 0)) (.tmp 14) 306 rfl Tryz.underlying306 .i64 .i64 (C:Int) C rfl ?c1 rfl hc3 w.heap.size (Nat.le_refl _) ?_)
 case c1=>first | rfl | trivial
 intro w1 hO1 hg1
 have hf1:Fr w w1:=Fr.own (Fr.refl w) hg1 (fun k hk=>by cases hk)
 go_wp2_with fail
 clear hg1
 go_loopw [5,6,7] (fun ov iv kv wr=>∃ (i k:Nat) (m:List It),i<=leaf.length/\k<=row.length/\iv=N i/\kv=N k/\m.length<=i+k/\Ow wr w.heap.size eIt ov m/\Hid (R=m++mergeI (leaf.drop i) (pairsI (row.drop k)))/\Fr w wr) (fun _ iv kv _=>leaf.length - (intOf iv).toNat+(row.length - (intOf kv).toNat))
 case atStart=>exact⟨0,0,[],Nat.zero_le _,Nat.zero_le _,rfl,rfl,by simp,hO1,HE0,hf1⟩
 case round=>
  clear hO1 hf1
  obtain⟨i,k,m,hi,hk,rfl,rfl,hml,hO,HE,hf⟩:=hrel
  have hwk:IntKind.i64.wrap ((k:Int)+1)=((k+1:Nat):Int):=by rw [IntWalk.i64_in _ (by omega)];omega
  by_cases hi1:i<leaf.length
  · have hi1':(i:Int)<leaf.length:=by omega
    obtain⟨b,off,cp,hv,c0,c1⟩:=itAt (ha.fr hf) i hi1
    have HL:=hid (List.drop_eq_getElem_cons hi1)
    have HC1:Hid (eIt.cells [leaf[i]]=[.int .u64 (leaf[i].w.toNat:Int),.bool leaf[i].leaf]):=rfl
    generalize leaf[i]=x at *
    have hxb:=UInt64.toNat_lt x.w
    cases hv
    have j1:(0:Int)<=i:=by omega
    by_cases hk1:k+1<row.length
    · have hk1':((k+1:Nat):Int)<row.length:=by omega
      obtain⟨b2,off2,cp2,hv2,d0,d1⟩:=itAt (hb.fr hf) k (by omega)
      obtain⟨b3,off3,cp3,hv3,e0,e1⟩:=itAt (hb.fr hf) (k+1) hk1
      rw [hv2]at hv3
      cases hv3
      have HP:=hid (drop_pairs row k hk1)
      generalize row[k]=p at *
      generalize row[k+1]=q at *
      cases hv2
      have hsm:=u64_add p.w q.w
      have HU:=hid (u64_le x.w (p.w+q.w))
      generalize hy:(⟨p.w+q.w,false,p.syms++q.syms⟩:It)=y at *
      have HY1:Hid (eIt.cells [y]=[.int .u64 ((p.w+q.w).toNat:Int),.bool false]):=by subst hy;rfl
      have HYw:Hid (y.w=p.w+q.w):=by subst hy;rfl
      have hsb:=UInt64.toNat_lt (p.w+q.w)
      have hpb:=UInt64.toNat_lt p.w
      have hqb:=UInt64.toNat_lt q.w
      clear hy
      generalize (p.w+q.w).toNat=s at *
      generalize p.w.toNat=pw at *
      generalize q.w.toNat=qw at *
      have j2:(0:Int)<=k:=by omega
      have j3:(k:Int)<row.length:=by omega
      have j4:(0:Int)<=((k+1:Nat):Int):=by omega
      have hk1n:¬(row.length:Int)<=((k+1:Nat):Int):=by omega
      have hlk:k+2<=row.length:=by omega
      have hwk2:IntKind.i64.wrap ((k:Int)+2)=((k+2:Nat):Int):=by rw [IntWalk.i64_in _ (by omega)];omega
      have hO':=hO
      by_cases hle:x.w<=p.w+q.w
      · have hle':(x.w.toNat:Int)<=s:=HU.out.1 hle
        have HE2:Hid (R=(m++[x])++mergeI (leaf.drop (i+1)) (pairsI (row.drop k))):=by
         show _=_;rw [HE.out,HP.out,HL.out,mergeI,if_pos (by rw [HYw.out];exact hle)];simp
        clear HE HL HP HU hle hO'
        go_upto_region 7 with fail
        go_quiet (fail)
        have hO2:=hO.fr ((Fr.refl wr).drewN nq)
        have hf2:=hf.trans ((Fr.refl wr).drewN nq)
        replace c0:=((Fr.refl wr).drewN nq).cell c0
        replace c1:=((Fr.refl wr).drewN nq).cell c1
        clear hO hf d0 d1 e0 e1
        generalize wr.drewN nq=w5 at *
        go_wp2_with (at_builtin;refine wpList_app1 eIt rfl (.tmp 66) (.tmp 71) 306 rfl Tryz.underlying306 w.heap.size rfl hO2 [x] _ _ _ rfl rfl rfl (by simp;omega) hf2.size ?_)
        intro v' w4 hap
        go_wp2_with fail
        go_roundw
        case rel=>exact⟨i+1,k,m++[x],by omega,hk,by go_num,rfl,by simp;omega,hap.own,HE2,hap.below hO2 hf2 (Nat.le_refl _) hf2.size⟩
        case measure=>simp [intOf];omega
      · have hle':¬(x.w.toNat:Int)<=s:=fun e=>hle (HU.out.2 e)
        have HE2:Hid (R=(m++[y])++mergeI (leaf.drop i) (pairsI (row.drop (k+2)))):=by
         show _=_;rw [HE.out,HP.out,HL.out,mergeI,if_neg (by rw [HYw.out];exact hle)];simp
        clear HE HL HP HU hle hO'
        go_upto_region 7 with fail
        go_quiet (fail)
        have hO2:=hO.fr ((Fr.refl wr).drewN nq)
        have hf2:=hf.trans ((Fr.refl wr).drewN nq)
        replace c0:=((Fr.refl wr).drewN nq).cell c0
        replace c1:=((Fr.refl wr).drewN nq).cell c1
        clear hO hf d0 d1 e0 e1
        generalize wr.drewN nq=w5 at *
        go_wp2_with (at_builtin;refine wpList_app1 eIt rfl (.tmp 75) (.tmp 78) 306 rfl Tryz.underlying306 w.heap.size rfl hO2 [y] _ _ _ (by rw [HY1.out]) rfl rfl (by simp;omega) hf2.size ?_)
        intro v' w4 hap
        go_wp2_with fail
        go_roundw
        case rel=>exact⟨i,k+2,m++[y],hi,hlk,rfl,by go_num,by simp;omega,hap.own,HE2,hap.below hO2 hf2 (Nat.le_refl _) hf2.size⟩
        case measure=>simp [intOf];omega
    · have hk1':¬((k+1:Nat):Int)<row.length:=by omega
      have hk2':(row.length:Int)<=((k+1:Nat):Int):=by omega
      have HE2:Hid (R=(m++[x])++mergeI (leaf.drop (i+1)) (pairsI (row.drop k))):=by
       have h1:=drop_pairs_end row k (by omega)
       show _=_;rw [HE.out,h1,mergeI_nil,mergeI_nil,HL.out];simp
      clear HE HL
      go_wp2_with (at_builtin;refine wpList_app1 eIt rfl (.tmp 32) (.tmp 37) 306 rfl Tryz.underlying306 w.heap.size rfl hO [x] _ _ _ rfl rfl rfl (by simp;omega) hf.size ?_)
      intro v' w4 hap
      go_wp2_with fail
      go_roundw
      case rel=>exact⟨i+1,k,m++[x],by omega,hk,by go_num,rfl,by simp;omega,hap.own,HE2,hap.below hO hf (Nat.le_refl _) hf.size⟩
      case measure=>simp [intOf];omega
  · obtain rfl:i=leaf.length:=by omega
    have hi1':¬(leaf.length:Int)<leaf.length:=by omega
    by_cases hk1:k+1<row.length
    · have hk1':((k+1:Nat):Int)<row.length:=by omega
      obtain⟨b2,off2,cp2,hv2,d0,d1⟩:=itAt (hb.fr hf) k (by omega)
      obtain⟨b3,off3,cp3,hv3,e0,e1⟩:=itAt (hb.fr hf) (k+1) hk1
      rw [hv2]at hv3
      cases hv3
      have HP:=hid (drop_pairs row k hk1)
      generalize row[k]=p at *
      generalize row[k+1]=q at *
      cases hv2
      have hsm:=u64_add p.w q.w
      generalize hy:(⟨p.w+q.w,false,p.syms++q.syms⟩:It)=y at *
      have HY1:Hid (eIt.cells [y]=[.int .u64 ((p.w+q.w).toNat:Int),.bool false]):=by subst hy;rfl
      have hsb:=UInt64.toNat_lt (p.w+q.w)
      have hpb:=UInt64.toNat_lt p.w
      have hqb:=UInt64.toNat_lt q.w
      clear hy
      generalize (p.w+q.w).toNat=s at *
      generalize p.w.toNat=pw at *
      generalize q.w.toNat=qw at *
      have j2:(0:Int)<=k:=by omega
      have j3:(k:Int)<row.length:=by omega
      have j4:(0:Int)<=((k+1:Nat):Int):=by omega
      have hk1n:¬(row.length:Int)<=((k+1:Nat):Int):=by omega
      have hlk:k+2<=row.length:=by omega
      have hwk2:IntKind.i64.wrap ((k:Int)+2)=((k+2:Nat):Int):=by rw [IntWalk.i64_in _ (by omega)];omega
      have HE2:Hid (R=(m++[y])++mergeI (leaf.drop leaf.length) (pairsI (row.drop (k+2)))):=by
       show _=_;rw [HE.out,HP.out,List.drop_length,nil_mergeI,nil_mergeI];simp
      clear HE HP
      go_upto_region 7 with fail
      go_quiet (fail)
      have hO2:=hO.fr ((Fr.refl wr).drewN nq)
      have hf2:=hf.trans ((Fr.refl wr).drewN nq)
      clear hO hf d0 d1 e0 e1
      generalize wr.drewN nq=w5 at *
      go_wp2_with (at_builtin;refine wpList_app1 eIt rfl (.tmp 75) (.tmp 78) 306 rfl Tryz.underlying306 w.heap.size rfl hO2 [y] _ _ _ (by rw [HY1.out]) rfl rfl (by simp;omega) hf2.size ?_)
      intro v' w4 hap
      go_wp2_with fail
      go_roundw
      case rel=>exact⟨leaf.length,k+2,m++[y],Nat.le_refl _,hlk,rfl,by go_num,by simp;omega,hap.own,HE2,hap.below hO2 hf2 (Nat.le_refl _) hf2.size⟩
      case measure=>simp [intOf];omega
    · have hk1':¬((k+1:Nat):Int)<row.length:=by omega
      have HE2:Hid (R=m):=by
       have h1:=drop_pairs_end row k (by omega)
       show _=_;rw [HE.out,h1,List.drop_length,mergeI_nil,List.append_nil]
      clear HE
      go_wp2_with fail
      go_ret
      exact⟨_,rfl,by rw [HE2.out];exact hO,hf⟩
def wt1(r:Rec):Nat:=16+r.source.length+r.text.length
def longR(r:Rec):Bool:=decide (4000<r.source.length) || decide (4000<r.text.length)
def okLog(l:List Rec):Bool:=decide (l.length<=20000) && (l.all fun r=>!longR r) && decide (wtS wt1 l<=1048576)
abbrev recV(r:Rec):Value:=.agg #[.int .u64 r.time.toNat,Fk.u8 r.level,S r.source,S r.text]
theorem long_any(r:Rec)(w:World):Calls Tryz.prog 43 #[recV r] w fun e w'=>e=.returned (.bool (longR r))/\Fr w w':=by
 have HR:Hid (longR r=(decide (4000<r.source.length) || decide (4000<r.text.length))):=rfl
 by_cases h1:4000<r.source.length
 · have h1':(4000:Int)<r.source.length:=by omega
   have HE:Hid (longR r=true):=by show _=_;rw [HR.out,decide_eq_true h1];rfl
   go_enter Tryz.func43, Tryz.ntmps43
   go_wp2_with fail
   go_ret
   exact⟨by rw [HE.out];rfl,(Fr.refl w).alloc _⟩
 · have h1':¬(4000:Int)<r.source.length:=by omega
   by_cases h2:4000<r.text.length
   · have h2':(4000:Int)<r.text.length:=by omega
     have HE:Hid (longR r=true):=by show _=_;rw [HR.out,decide_eq_true h2];simp
     go_enter Tryz.func43, Tryz.ntmps43
     go_wp2_with fail
     go_ret
     exact⟨by rw [HE.out];rfl,(Fr.refl w).alloc _⟩
   · have h2':¬(4000:Int)<r.text.length:=by omega
     have HE:Hid (longR r=false):=by show _=_;rw [HR.out,decide_eq_false h1,decide_eq_false h2];rfl
     go_enter Tryz.func43, Tryz.ntmps43
     go_wp2_with fail
     go_ret
     exact⟨by rw [HE.out];rfl,(Fr.refl w).alloc _⟩
theorem QWeight_any(v:Value)(l:List Rec)(w:World)(hs:See w eR v l)(hl:l.length<=20000)(hb:∀ r∈l,wt1 r<=8016) :
  Calls Tryz.prog 44 #[v] w fun e w'=>e=.returned (N (wtS wt1 l))/\Fr w w':=by
 obtain⟨a,cap,rfl,hcap1,hcap2,hnone⟩:=hs.shape
 have HTk:=hid (fun k=>wtS_le wt1 8016 (l.take k) (fun x hx=>hb x (List.mem_of_mem_take hx)))
 have HB:=hid hb
 clear hb
 go_enter Tryz.func44, Tryz.ntmps44
 go_wp2_with fail
 go_loopw [3,8] (fun sv iv wr=>∃ k:Nat,k<=l.length/\iv=N k/\sv=N (wtS wt1 (l.take k))/\Fr w wr) (fun _ iv _=>l.length - (intOf iv).toNat)
 case atStart=>exact⟨0,Nat.zero_le _,rfl,rfl,Fr.refl w⟩
 case round=>
  obtain⟨k,hk,rfl,rfl,hf⟩:=hrel
  have hbd:=HTk.out k
  rw [List.length_take,Nat.min_eq_left hk]at hbd
  have hbd2:wtS wt1 (l.take k)<=20000*8016:=Nat.le_trans hbd (Nat.mul_le_mul (by omega) (Nat.le_refl _))
  clear hbd
  by_cases hlt:k<l.length
  · obtain⟨b,off,cap',hv,c0,c1,c2,c3⟩:=recAt (hs.fr hf) k hlt
    have HN:=hid (wtS_snoc wt1 l k hlt)
    have h1:wt1 l[k]<=8016:=HB.out _ (List.getElem_mem hlt)
    generalize wtS wt1 (l.take k)=sum at *
    generalize l[k]=r at *
    cases hv
    unfold wt1 at h1
    have i1:(0:Int)<=k:=by omega
    have i2:(k:Int)<l.length:=by omega
    go_wp2_with fail
    exact⟨⟨k+1,by omega,by go_num,by rw [HN.out];unfold wt1;go_num,hf.alloc _⟩,by simp [intOf];omega⟩
  · obtain rfl:k=l.length:=by omega
    have hnl:¬((l.length:Int)<l.length):=by omega
    rw [List.take_length]at *
    go_wp2_with fail
    go_ret
    exact⟨rfl,hf⟩
theorem indexLong_any(v:Value)(l:List Rec)(w:World)(hs:See w eR v l) :
  Calls Tryz.prog 74 #[v,.func (.func 43) #[] #[]] w fun e w'=>∃ x:Int,e=.returned (.int .i64 x)/\Hid (decide (0<=x)=l.any longR)/\Fr w w':=by
 obtain⟨a,cap,rfl,hcap1,hcap2,hnone⟩:=hs.shape
 unfold maxLen at hcap2
 have HL:=hid long_any
 go_enter Tryz.func74, Tryz.ntmps74
 go_wp2_with fail
 go_loopw [8] (fun iv wr=>∃ k:Nat,k<=l.length/\iv=N k/\Hid ((l.take k).any longR=false)/\Fr w wr) (fun iv _=>l.length - (intOf iv).toNat)
 case atStart=>exact⟨0,Nat.zero_le _,rfl,rfl,Fr.refl w⟩
 case round=>
  obtain⟨k,hk,rfl,HA,hf⟩:=hrel
  by_cases hlt:k<l.length
  · obtain⟨b,off,cap',hv,c0,c1,c2,c3⟩:=recAt (hs.fr hf) k hlt
    have HN:Hid ((l.take (k+1)).any longR=longR l[k]):=by
     show _=_;rw [List.take_succ_eq_append_getElem hlt,List.any_append,HA.out];simp
    have HX:Hid (longR l[k]=true->l.any longR=true):=fun h=>List.any_eq_true.2 ⟨_,List.getElem_mem hlt,h⟩
    generalize l[k]=r at *
    cases hv
    have HR:=hid (HL.out r)
    have i1:(0:Int)<=k:=by omega
    have i2:(k:Int)<l.length:=by omega
    cases hr:longR r
    · rw [hr]at HR HN HX
      clear hr
      go_wp2_with fail
      refine(HR.out _).mono ?_
      rintro e w1 ⟨rfl,hf1⟩
      go_wp2_with fail
      exact⟨⟨k+1,by omega,by go_num,HN.out,hf.trans hf1⟩,by simp [intOf];omega⟩
    · have HX2:=hid (HX.out hr)
      rw [hr]at HR HN
      clear hr HX
      go_wp2_with fail
      refine(HR.out _).mono ?_
      rintro e w1 ⟨rfl,hf1⟩
      go_wp2_with fail
      go_ret
      exact⟨_,rfl,by show _=_;rw [HX2.out];simp,hf.trans hf1⟩
  · obtain rfl:k=l.length:=by omega
    have hnl:¬((l.length:Int)<l.length):=by omega
    rw [List.take_length]at HA
    go_wp2_with fail
    go_ret
    exact⟨_,rfl,by show _=_;rw [HA.out];rfl,hf⟩
theorem hasLong_any(v:Value)(l:List Rec)(w:World)(hs:See w eR v l) :
  Calls Tryz.prog 42 #[v,.func (.func 43) #[] #[]] w fun e w'=>e=.returned (.bool (l.any longR))/\Fr w w':=by
 obtain⟨a,cap,hv,hcap1,hcap2,hnone⟩:=hs.shape
 have HI:=hid (indexLong_any v l w hs)
 subst hv
 go_enter Tryz.func42, Tryz.ntmps42
 go_wp2_with fail
 refine HI.out.mono ?_
 rintro e w1 ⟨x,rfl,HX,hf⟩
 go_wp2_with fail
 go_ret
 exact⟨by rw [<- HX.out];rfl,hf⟩
theorem QCheck_any(v:Value)(l:List Rec)(w:World)(hs:See w eR v l) :
  Calls Tryz.prog 23 #[v] w fun e w'=>e=.returned (.int .i64 (if okLog l then 0 else 6))/\Fr w w':=by
 obtain⟨a,cap,hv,hcap1,hcap2,hnone⟩:=hs.shape
 have HL:=hid (fun W h=>hasLong_any v l W h)
 have HW:=hid (fun W h=>QWeight_any v l W h)
 have HR:Hid ((if okLog l then(0:Int)else 6)=if(decide (l.length<=20000) && (l.all fun r=>!longR r) && decide (wtS wt1 l<=1048576))=true then 0 else 6):=rfl
 have HAll:Hid ((l.all fun r=>!longR r) = !(l.any longR)):=by show _=_;rw [List.not_any_eq_all_not]
 generalize (if okLog l then(0:Int)else 6)=R at *
 rw [HAll.out]at HR
 subst hv
 unfold maxLen at hcap2
 by_cases h1:l.length<=20000
 · have h1':¬(20000:Int)<l.length:=by omega
   rw [decide_eq_true h1]at HR
   cases ha:l.any longR
   · have hb:∀ r∈l,wt1 r<=8016:=by
       intro r hr
       have h2:longR r=false:=by
        cases hx:longR r
        · rfl
        · rw [List.any_eq_true.2 ⟨r,hr,hx⟩]at ha;cases ha
       unfold longR at h2
       simp only [Bool.or_eq_false_iff,decide_eq_false_iff_not]at h2
       unfold wt1;omega
     rw [ha]at HR HL
     have HW2:=hid (fun W h=>HW.out W h h1 hb)
     clear HAll HW hb ha
     by_cases h3:wtS wt1 l<=1048576
     · rw [decide_eq_true h3]at HR
       have h3':¬(1048576:Int)<wtS wt1 l:=by omega
       have HE:Hid (R=0):=by show _=_;rw [HR.out];rfl
       generalize wtS wt1 l=wt at *
       go_enter Tryz.func23, Tryz.ntmps23
       go_wp2_with fail
       refine(HL.out _ hs).mono ?_
       rintro e w1 ⟨rfl,hf1⟩
       go_wp2_with fail
       refine(HW2.out _ (hs.fr hf1)).mono ?_
       rintro e w2 ⟨rfl,hf2⟩
       go_wp2_with fail
       go_ret
       exact⟨by rw [HE.out];rfl,hf1.trans hf2⟩
     · rw [decide_eq_false h3]at HR
       have h3':(1048576:Int)<wtS wt1 l:=by omega
       have HE:Hid (R=6):=by show _=_;rw [HR.out];rfl
       generalize wtS wt1 l=wt at *
       go_enter Tryz.func23, Tryz.ntmps23
       go_wp2_with fail
       refine(HL.out _ hs).mono ?_
       rintro e w1 ⟨rfl,hf1⟩
       go_wp2_with fail
       refine(HW2.out _ (hs.fr hf1)).mono ?_
       rintro e w2 ⟨rfl,hf2⟩
       go_wp2_with fail
       go_ret
       exact⟨by rw [HE.out];rfl,hf1.trans hf2⟩
   · rw [ha]at HR HL
     have HE:Hid (R=6):=by show _=_;rw [HR.out];rfl
     clear HAll ha
     go_enter Tryz.func23, Tryz.ntmps23
     go_wp2_with fail
     refine(HL.out _ hs).mono ?_
     rintro e w1 ⟨rfl,hf1⟩
     go_wp2_with fail
     go_ret
     exact⟨by rw [HE.out];rfl,hf1⟩
 · have h1':(20000:Int)<l.length:=by omega
   rw [decide_eq_false h1]at HR
   have HE:Hid (R=6):=by show _=_;rw [HR.out];rfl
   go_enter Tryz.func23, Tryz.ntmps23
   go_wp2_with fail
   go_ret
   exact⟨by rw [HE.out];rfl,Fr.refl w⟩
theorem wst_fr{g:Nat}{bv:Value}{w w':World}(h:WSt g (.slice none 0 0) bv w w')(hg:w.heap.size<=g):Fr w w':=
 h.1.fr fun k hk e=>by
  rcases e with e | e
  · omega
  · simp [Value.ownBlock]at e
def eU:Elt Tryz.prog Nat:=⟨211,1,2,0,.int .u16 0,fun n=>[.int .u16 (n:Int)],by kernel_rfl,by decide,by decide,by simp [Value.cells],fun _=>rfl,by intro x u hu;simp at hu;subst hu;rfl⟩
structure PartsT (w:World) (T:TypeId) (base g n:Nat) (hv lv:Value) (hs ls:List Nat):Prop where
 at0:w.heap[g]? = some (.cells #[N n,hv,lv] T (0,0))
 hi:Ow w base eJ hv hs
 lo:Ow w base eU lv ls
 lt:g<base
abbrev PartsAt(w:World)(base g n:Nat)(hv lv:Value)(hs ls:List Nat):Prop:=PartsT w 209 base g n hv lv hs ls
theorem padd_any (x n : Nat) (hx : x ≤ 20000) (hn : n ≤ 14) {T : TypeId} (base g : Nat) (hv lv : Value) (hs ls : List Nat) (w : World) (h : PartsT w T base g n hv lv hs ls) (hl : hs.length ≤ 20000) (hl2 : ls.length ≤ 20000) (hsz : base ≤ w.heap.size) :
    Calls Tryz.prog 120 #[.pointer (some ⟨g,0,none⟩),N x] w fun e w'=>e=.returned (.tuple #[])/\∃ hv' lv',PartsT w' T base g n hv' lv' (hs++[x / 2 ^ n]) (ls++[x % 2 ^ n])/\Chg (fun k=>k=g\/hv.ownBlock=some k\/lv.ownBlock=some k) w w':=by
  obtain⟨h0,hhi,hlo,hgb⟩:=h
  have hne:=own_ne hhi hlo (by decide)
  have e0:=cellx h0 0 rfl
  have e1:=cellx h0 1 rfl
  have e2:=cellx h0 2 rfl
  have hdn:(x:Int) / 2 ^ n=((x / 2 ^ n:Nat):Int):=by simp
  have hyx:x / 2 ^ n<=x:=Nat.div_le_self _ _
  have HC1:Hid (hs.length+[x / 2 ^ n].length<=2147483648):=by show _<=_;simp;omega
  have HM:Hid (x % 2 ^ n=x % 2 ^ n):=rfl
  generalize hz:x % 2 ^ n=z at *
  have HZ:=hid hz
  clear hz
  generalize hy:x / 2 ^ n=y at *
  have HY:=hid hy
  clear hy
  have hn0:(0:Int)<=n:=by omega
  have hn1:¬(n:Int)<0:=by omega
  have HSZ:Hid (base<=w.drew.heap.size):=hsz
  have hD:=hhi.drew
  have hfa:Fr w (w.alloc (.cells #[.int .i64 (y:Int)] 3)):=(Fr.refl w).alloc _
  have e0a:=hfa.cell e0
  have e1a:=hfa.cell e1
  clear hfa
  have hnn:∀ k,hv.ownBlock=some k->base<=k:=fun k hk=>(hhi.lt k hk).1
  clear hhi
  go_enter Tryz.func120, Tryz.ntmps120
  go_upto_region 0 with fail
  go_cut []from 4 to 18 (fun wx=>∃ hv',wx.heap[g]? = some (.cells #[N n,hv',lv] T (0,0))/\Ow wx base eJ hv' (hs++[y])/\Chg (fun k=>k=g\/hv.ownBlock=some k) w wx/\(∀ b,hv'.ownBlock=some b->hv.ownBlock=some b\/w.heap.size<=b))
  case first=>
    go_region_law (refine step_app1d eJ rfl (.tmp 8) (.tmp 15) 55 rfl Tryz.underlying55 base rfl hD [y] _ _ _ rfl rfl rfl HC1.out HSZ.out ?_
                   intro v' w4 hap
                   have own4 := hap.own
                   have HA4 := hid hap.chg'
                   have HS4 := hid hap.size
                   have HN4 := hid hap.fresh
                   obtain ⟨va, vc, hv'⟩ := own4.shape'
                   have k0 := hap.chg'.heap (show w.drew.heap[g]? = _ from h0) (fun e => by have := hnn g e; omega)
                   have e3 := cellx k0 1 rfl
                   have e4 : w4.frozen? ⟨g, 1, none⟩ = false := frozen_of_heap k0 1
                   clear hap
                   subst hv')
    all_goals go_wp2_with fail
    all_goals go_meet
    all_goals refine⟨.slice va (hs.length+1) vc,?_,own_set_other (by simpa using own4) hgb,(HA4.out.mono (fun k _ h=>Or.inr h)).trans (setCell_chg w4 ⟨g,1,none⟩ _) (fun k _ h=>Or.inl h),fun b hb=>HN4.out b (by simpa using hb)⟩
    all_goals(have hk:=heap_setCell_own k0 1 (.slice va (hs.length+1) vc);simpa using hk)
  case rest=>
    obtain⟨hv1,h1,hhi1,hc1,hf1⟩:=hcut
    have hlo1:Ow wc base eU lv ls:=hlo.chg hc1 fun q hq e=>by
      rcases e with e | e
      · have:=(hlo.lt q hq).1;omega
      · rcases hne with h | h
        · rw [h]at e;cases e
        · exact h (e.trans hq.symm)
    have c0:=cellx h1 0 rfl
    have c2:=cellx h1 2 rfl
    clear e0 e1 e2 e0a e1a hlo
    have HC2:Hid (ls.length+[z].length<=2147483648):=by show _<=_;simp;omega
    have HSZ2:Hid (base<=wc.drew.heap.size):=Nat.le_trans hsz hc1.size
    have hD2:=hlo1.drew
    have hp:(2:Nat) ^ n<=16384:=Nat.pow_le_pow_right (by omega) hn
    have hp1:=Nat.two_pow_pos n
    have hpi:(2:Int) ^ n=((2 ^ n:Nat):Int):=by simp
    have w1:IntKind.i64.wrap ((2:Int) ^ n)=((2 ^ n:Nat):Int):=by rw [hpi];exact IntWalk.i64_in _ (by omega)
    have w2:IntKind.i64.wrap (((2 ^ n:Nat):Int) - 1)=((2 ^ n - 1:Nat):Int):=by rw [IntWalk.i64_in _ (by omega)];omega
    have w3:bits .and .i64 (x:Int) ((2 ^ n - 1:Nat):Int)=(z:Int):=by
      rw [and_i64 _ _ (by omega) (by omega),Nat.and_two_pow_sub_one_eq_mod,HZ.out]
    have w4:IntKind.u16.wrap (z:Int)=(z:Int):=by
      have hz:z<2 ^ n:=by rw [<- HZ.out];exact Nat.mod_lt _ hp1
      simp only [IntKind.wrap,IntKind.bits,IntKind.signed]
      simp
      omega
    have hfa:Fr wc (wc.alloc (.cells #[.int .u16 (z:Int)] 211)):=(Fr.refl wc).alloc _
    have c0a:=hfa.cell c0
    have c2a:=hfa.cell c2
    clear hfa
    have HPI:=hid hpi
    clear hpi hp
    generalize 2 ^ n - 1=pm at *
    generalize hpn:2 ^ n=pn at *
    have HPN:=hid hpn
    clear hpn
    have hll:∀ k,lv.ownBlock=some k->base<=k:=fun k hk=>(hlo1.lt k hk).1
    have HLO:=hid hlo1
    have HHI:=hid hhi1
    clear hlo1 hhi1
    go_upto_region 1 with fail

    go_region_law (refine step_app1d eU rfl (.tmp 23) (.tmp 33) 207 rfl Tryz.underlying207 base rfl hD2 [z] _ _ _ rfl rfl rfl HC2.out HSZ2.out ?_
                   intro v' w4 hap
                   have own4 := hap.own
                   have HA4 := hid hap.chg'
                   have HI4 := hid (own_app HHI.out HLO.out hap (by decide))
                   obtain ⟨va, vc, hv'⟩ := own4.shape'
                   have k0 := hap.chg'.heap (show wc.drew.heap[g]? = _ from h1) (fun e => by have := hll g e; omega)
                   have e3 := cellx k0 2 rfl
                   have e4 : w4.frozen? ⟨g, 2, none⟩ = false := frozen_of_heap k0 2
                   clear hap
                   subst hv')
    all_goals go_wp2_with fail
    all_goals go_end0
    all_goals refine⟨rfl,⟨hv1,.slice va (ls.length+1) vc,⟨?_,?_,?_,hgb⟩⟩,(hc1.mono (fun k _ h=>?_)).trans ((HA4.out.mono (G':=fun k=>k=g\/lv.ownBlock=some k) (fun k _ h=>.inr h)).trans (setCell_chg w4 ⟨g,2,none⟩ _) (fun k _ h=>.inl h)) (fun k _ h=>?_)⟩
    all_goals first
      | (have hk:=heap_setCell_own k0 2 (.slice va (ls.length+1) vc);simpa using hk)
      | exact own_set_other HI4.out hgb
      | (exact own_set_other (by simpa using own4) hgb)
      | exact Or.elim h (fun h=>.inl h) (fun h=>.inr (.inl h))
      | exact Or.elim h (fun h=>.inl h) (fun h=>.inr (.inr h))
def oneB(whole:Bool)(r:Rec):List UInt8:=(if whole then numB r.time.toNat++[r.level]else [])++(textB r.source++textB r.text)
theorem textB_len(s:List UInt8)(h:s.length<18446744073709551616):(textB s).length<=s.length+10:=by
 unfold textB;have:=numB_le s.length h;rw [List.length_append];omega
theorem oneB_len(b:Bool)(r:Rec)(hs:r.source.length<=100000)(ht:r.text.length<=100000):(oneB b r).length<=r.source.length+r.text.length+31:=by
 have h1:=textB_len r.source (by omega)
 have h2:=textB_len r.text (by omega)
 have h3:=numB_le r.time.toNat (UInt64.toNat_lt _)
 unfold oneB
 cases b
 · simp only [List.length_append];simp;omega
 · simp only [List.length_append,if_true];simp;omega
theorem sees3(w:World)(h0 h1 h2:Hd)(p0 p1 p2:List UInt8)(s0:See w eB h0.v p0)(s1:See w eB h1.v p1)(s2:See w eB h2.v p2) :
  Sees2 (w.alloc (.cells #[h0.v,h1.v,h2.v] 27)) eHB eB (.slice (some ⟨w.heap.size,0,none⟩) 3 3) [h0,h1,h2] [p0,p1,p2]:=by
 refine⟨see_new eHB w [h0,h1,h2] _ _ 3 rfl rfl (by simp [maxLen]),rfl,fun i a b=>?_⟩
 have hf:=(Fr.refl w).alloc (.cells #[h0.v,h1.v,h2.v] 27)
 have:i=0\/i=1\/i=2:=by simp at a;omega
 rcases this with rfl | rfl | rfl
 · exact s0.fr hf
 · exact s1.fr hf
 · exact s2.fr hf
theorem see_hd{w:World}{v:Value}{p:List UInt8}(h:See w eB v p):∃ x:Hd,v=x.v:=by
 obtain⟨a,c,hv,_⟩:=h.shape
 exact⟨⟨a,p.length,c⟩,hv⟩
theorem all3(W:World)(v0 v1 v2:Value)(p0 p1 p2:List UInt8)(s0:See W eB v0 p0)(s1:See W eB v1 p1)(s2:See W eB v2 p2)(hn:p0.length+p1.length+p2.length<=1000000) :
  Calls Tryz.prog 26 #[.slice (some ⟨W.heap.size,0,none⟩) 3 3] (W.alloc (.cells #[v0,v1,v2] 27)) fun e w'=>∃ v,e=.returned v/\Ow w' W.heap.size eB v (p0++(p1++p2))/\Fr W w':=by
 obtain⟨h0,rfl⟩:=see_hd s0
 obtain⟨h1,rfl⟩:=see_hd s1
 obtain⟨h2,rfl⟩:=see_hd s2
 refine(All_any _ _ _ _ (sees3 W h0 h1 h2 p0 p1 p2 s0 s1 s2) (by simp;omega)).mono ?_
 rintro e w' ⟨v,he,ho,hf⟩
 exact⟨v,he,by simpa using ho.rebase (by simp),((Fr.refl W).alloc _).trans hf⟩
theorem one_any (r : Rec) (w : World) (hs : r.source.length ≤ 100000) (ht : r.text.length ≤ 100000) :
    Calls Tryz.prog 45 #[.bool false,recV r] w fun e w'=>∃ v,e=.returned v/\Ow w' w.heap.size eB v (oneB false r)/\Fr w w':=by
  have HT:=hid (fun s (h:s.length<=1000000000) W=>Text_any s h W)
  have H1:=textB_len r.source (by omega)
  have H2:=textB_len r.text (by omega)
  have HE:Hid (oneB false r=textB r.source++textB r.text):=rfl
  go_enter Tryz.func45, Tryz.ntmps45
  go_upto_region 4 with fail
  generalize hW:w.alloc (.cells #[.int .u64 r.time.toNat,Fk.u8 r.level,S r.source,S r.text] 36)=W
  have hf0:Fr w W:=by rw [<- hW];exact(Fr.refl w).alloc _
  have hc0:W.cell? ⟨w.heap.size,2,none⟩=some (S r.source)/\W.cell? ⟨w.heap.size,3,none⟩=some (S r.text):=by
    rw [<- hW];refine⟨?_,?_⟩ <;> rw [World.cell?_alloc_at _ _ _ _ rfl] <;> rfl
  obtain⟨a2,a3⟩:=hc0
  have HF:=hid hf0
  clear hW hf0
  have HA:=hid (fun W v1 v2 (s1:See W eB v1 (textB r.source)) (s2:See W eB v2 (textB r.text))=>all3 W _ v1 v2 [] _ _ See.nil s1 s2 (by simp;omega))
  rw [List.nil_append,<- HE.out]at HA
  go_region_held3 (fun w' => w'.cell? ⟨w.heap.size, 2, none⟩ = some (S r.source) ∧ w'.cell? ⟨w.heap.size, 3, none⟩ = some (S r.text))
    (first | go_keep)
    ((first
      | (go_at_call_of 75 (S r.source); refine (HT.out r.source (by omega) _).mono ?_; rintro e w1 ⟨v1, rfl, hown1, hf1⟩; obtain ⟨q1, z1, hq1⟩ := hown1.shape'; subst hq1; have b2 := hf1.cell a2; have b3 := hf1.cell a3)
      | (go_at_call_of 75 (S r.text); refine (HT.out r.text (by omega) _).mono ?_; rintro e w2 ⟨v2, rfl, hown2, hf2⟩; obtain ⟨q2, z2, hq2⟩ := hown2.shape'; subst hq2; have d2 := hf2.cell b2; have d3 := hf2.cell b3)
      | (go_at_call 26; refine (HA.out _ _ _ (hown1.see.fr hf2) hown2.see).mono ?_; rintro e w3 ⟨v3, rfl, hown3, hf3⟩; have x2 := hf3.cell d2; have x3 := hf3.cell d3)))
  go_wp2_with fail
  go_ret
  exact⟨_,rfl,hown3.rebase (by have:=((((HF.out.trans (Fr.drew (Fr.refl W))).trans hf1).trans hf2)).size;omega),(((HF.out.trans (Fr.drew (Fr.refl W))).trans hf1).trans hf2).trans hf3⟩
theorem all2(W:World)(v0 v1:Value)(p0 p1:List UInt8)(s0:See W eB v0 p0)(s1:See W eB v1 p1)(hn:p0.length+p1.length<=1000000) :
  Calls Tryz.prog 26 #[.slice (some ⟨W.heap.size,0,none⟩) 2 2] (W.alloc (.cells #[v0,v1] 27)) fun e w'=>∃ v,e=.returned v/\Ow w' W.heap.size eB v (p0++p1)/\Fr W w':=by
 obtain⟨h0,rfl⟩:=see_hd s0
 obtain⟨h1,rfl⟩:=see_hd s1
 have hs:Sees2 (W.alloc (.cells #[h0.v,h1.v] 27)) eHB eB (.slice (some ⟨W.heap.size,0,none⟩) 2 2) [h0,h1] [p0,p1]:=by
  refine⟨see_new eHB W [h0,h1] _ _ 2 rfl rfl (by simp [maxLen]),rfl,fun i a b=>?_⟩
  have hf:=(Fr.refl W).alloc (.cells #[h0.v,h1.v] 27)
  have:i=0\/i=1:=by simp at a;omega
  rcases this with rfl | rfl
  · exact s0.fr hf
  · exact s1.fr hf
 refine(All_any _ _ _ _ hs (by simp;omega)).mono ?_
 rintro e w' ⟨v,he,ho,hf⟩
 exact⟨v,he,by simpa using ho.rebase (by simp),((Fr.refl W).alloc _).trans hf⟩
theorem uAt{w:World}{v:Value}{l:List Nat}(h:See w eU v l)(k:Nat)(hk:k<l.length) :
  ∃ b off cap,v=.slice (some ⟨b,off,none⟩) l.length cap/\w.cell? ⟨b,off+k,none⟩=some (.int .u16 (l[k]:Int)):=by
 obtain⟨b,off,cap,hv,h3⟩:=h.cell1 (fun n:Nat=>Value.int .u16 (n:Int)) rfl k hk
 exact⟨b,off,cap,hv,h3⟩
theorem EfWrite_any(bound:Nat)(hb:bound<=20000)(v:Value)(l:List Nat)(w:World)(hs:See w eJ v l)(hr:risesGo bound 0 l=true)
  (HWd:Hid (∀ q W,1<=q->q=l.length->Calls Tryz.prog 119 #[N bound,N q] W fun e w'=>e=.returned (N (Nat.log2 (bound / q)))/\Fr W w')) :
  Calls Tryz.prog 82 #[N bound,v] w fun e w'=>∃ v,e=.returned (.tuple #[v,.int .i64 0])/\Ow w' w.heap.size eB v (efL bound l)/\Fr w w':=by
 obtain⟨a,cap,rfl,hcap1,hcap2,hnone⟩:=hs.shape
 unfold maxLen at hcap2
 have hlen:=rises_len bound l 0 (Nat.zero_le _) hr
 have HM:=hid (rises_any bound _ l w hs)
 rw [hr]at HM
 have HN:=hid (fun W=>Num_any l.length (by omega) W)
 have hnb:=numB_le l.length (by omega)
 have HX:=hid (rises_lt bound l 0 hr)
 have HEf:Hid (efL bound l=numB l.length++if l=[]then []else packW (efLow (Nat.log2 (bound / l.length)) l++efHigh (Nat.log2 (bound / l.length)) 0 l)):=rfl
 generalize numB l.length=nb at *
 have HRi:=hid hr
 clear hr
 have b0:¬(bound:Int)<0:=by omega
 have b1:¬(20000:Int)<bound:=by omega
 go_enter Tryz.func82, Tryz.ntmps82
 go_wp2_with fail
 refine HM.out.mono ?_
 rintro e w1 ⟨rfl,hf1⟩
 go_wp2_with fail
 refine(HN.out _).mono ?_
 rintro e w2 ⟨v2,rfl,hown2,hf2⟩
 have hF2:=hf1.trans hf2
 by_cases h0:l=[]
 · subst h0
   go_wp2_with fail
   go_ret2
   exact⟨_,rfl,by rw [HEf.out];simpa using hown2.rebase hf1.size,hF2⟩
 · have hl0:0<l.length:=List.length_pos_iff.2 h0
   have hl0':((l.length:Int) == 0)=false:=by simp;omega
   have HW:=hid (fun W=>HWd.out l.length W hl0 rfl)
   clear HWd
   rw [if_neg h0]at HEf
   have hq1:1<=bound / l.length:=Nat.div_pos (by omega) hl0
   have hq2:bound / l.length<=20000:=Nat.le_trans (Nat.div_le_self _ _) hb
   generalize hQ:bound / l.length=q at *
   have hn14:Nat.log2 q<=14:=by
    refine Nat.le_of_lt_succ ((Nat.log2_lt (by omega)).2 ?_)
    omega
   generalize Nat.log2 q=n at *
   clear hQ
   go_wp2_with fail
   refine(HW.out _).mono ?_
   rintro e w3 ⟨rfl,hf3⟩
   have hF3:=hF2.trans hf3
   clear HW
   go_wp2_with fail
   have hll:l.length<=20000:=by omega
   have hA:Fr w3 (w3.alloc (.cells #[N n,Value.slice none 0 0,Value.slice none 0 0] 209)):=(Fr.refl w3).alloc _
   have hB:(w3.alloc (.cells #[N n,Value.slice none 0 0,Value.slice none 0 0] 209)).heap[w3.heap.size]? = some (.cells #[N n,Value.slice none 0 0,Value.slice none 0 0] 209 (0,0)):=heap_new _ _ _ rfl
   have hsz0:(w3.alloc (.cells #[N n,Value.slice none 0 0,Value.slice none 0 0] 209)).heap.size=w3.heap.size+1:=by simp
   generalize w3.alloc (.cells #[N n,Value.slice none 0 0,Value.slice none 0 0] 209)=W0 at *
   have hP0:PartsAt W0 (w3.heap.size+1) w3.heap.size n (.slice none 0 0) (.slice none 0 0) [] []:=⟨hB,Ow.nil,Ow.nil,by omega⟩
   have HSN:Hid (∀ k (h:k<l.length),(l.take (k+1)).map (fun x=>x / 2 ^ n)=(l.take k).map (fun x=>x / 2 ^ n)++[l[k] / 2 ^ n]/\(l.take (k+1)).map (fun x=>x % 2 ^ n)=(l.take k).map (fun x=>x % 2 ^ n)++[l[k] % 2 ^ n]):=by
    intro k h
    rw [List.take_succ_eq_append_getElem h,List.map_append,List.map_append];exact⟨rfl,rfl⟩
   have hLn:∀ k,((l.take k).map (fun x=>x / 2 ^ n)).length<=20000/\((l.take k).map (fun x=>x % 2 ^ n)).length<=20000:=fun k=>by
    simp only [List.length_map,List.length_take];omega
   have HLn:=hid hLn
   clear hB hLn
   go_loopw [43] (fun iv wr=>∃ (k:Nat) (hv lv:Value),k<=l.length/\iv=N k/\PartsAt wr (w3.heap.size+1) w3.heap.size n hv lv ((l.take k).map (fun x=>x / 2 ^ n)) ((l.take k).map (fun x=>x % 2 ^ n))/\Fr w3 wr) (fun iv _=>l.length - (intOf iv).toNat)
   case atStart=>exact⟨0,_,_,Nat.zero_le _,rfl,hP0,hA⟩
   case round=>
    clear hP0
    obtain⟨k,hv,lv,hk,rfl,hP,hfw⟩:=hrel
    have hszr:w3.heap.size+1<=wr.heap.size:=(Array.getElem?_eq_some_iff.1 hP.at0).1
    by_cases hlt:k<l.length
    · obtain⟨b,off,cap',hv',c0⟩:=jAt (hs.fr (hF3.trans hfw)) k hlt
      have HS:=hid (HSN.out k hlt)
      have HXb:=HX.out _ (List.getElem_mem hlt)
      have HLk:=HLn.out k
      generalize (l.take k).map (fun x=>x / 2 ^ n)=hs1 at *
      generalize (l.take k).map (fun x=>x % 2 ^ n)=ls1 at *
      generalize l[k]=x at *
      have HAdd:=hid (padd_any x n (by omega) hn14 (w3.heap.size+1) w3.heap.size hv lv hs1 ls1 wr hP HLk.1 HLk.2 hszr)
      have hhi:=hid (fun j (e:hv.ownBlock=some j)=>(hP.hi.lt j e).1)
      have hlo:=hid (fun j (e:lv.ownBlock=some j)=>(hP.lo.lt j e).1)
      cases hv'
      have i1:(0:Int)<=k:=by omega
      have i2:(k:Int)<l.length:=by omega
      clear hP HLk
      go_wp2_with fail
      refine HAdd.out.mono ?_
      rintro e w4 ⟨rfl,hv2,lv2,hP2,hc2⟩
      go_wp2_with fail
      go_roundw
      case rel => exact ⟨k + 1, hv2, lv2, by omega, by go_num, by rw [HS.out.1, HS.out.2]; exact hP2, Chg.below hfw hc2 (by omega) (fun j hj => by
       rcases hj with h | h | h
       · omega
       · have := hhi.out j h; omega
       · have := hlo.out j h; omega)⟩
      case measure=>simp [intOf];omega
    · obtain rfl:k=l.length:=by omega
      have hnl:¬((l.length:Int)<l.length):=by omega
      rw [List.take_length]at hP
      generalize wr=wm at *
      clear HLn HSN HN HM
      obtain⟨hPh,hPhi,hPlo,hPlt⟩:=hP
      have p0:=cellx hPh 0 rfl
      have p1:=cellx hPh 1 rfl
      have p2:=cellx hPh 2 rfl
      obtain⟨ha,hc,hhv⟩:=hPhi.shape'
      obtain⟨la,lc,hlv⟩:=hPlo.shape'
      rw [List.length_map]at hhv hlv
      have hFR:=hF3.trans hfw
      have HF23:=hid (hf3.trans hfw)
      clear hfw hA hF3 hF2 hf1 hf2 hf3 hPh
      have hA2:Fr wm (wm.alloc (.cells #[Value.slice none 0 0,Value.int .i64 0] 182)):=(Fr.refl wm).alloc _
      have hB2:(wm.alloc (.cells #[Value.slice none 0 0,Value.int .i64 0] 182)).heap[wm.heap.size]? = some (.cells #[Value.slice none 0 0,Value.int .i64 0] 182 (0,0)):=heap_new _ _ _ rfl
      have hsz2:(wm.alloc (.cells #[Value.slice none 0 0,Value.int .i64 0] 182)).heap.size=wm.heap.size+1:=by simp
      have P0:=hA2.cell p0
      have P1:=hA2.cell p1
      have P2:=hA2.cell p2
      subst hhv hlv
      go_wp2_with fail
      have hln:∀ k,(efLow n (l.take k)).length<=280000:=fun k=>by
       rw [efLow_len,List.length_take]
       exact Nat.le_trans (Nat.mul_le_mul (Nat.le_trans (Nat.min_le_right _ _) hll) hn14) (by omega)
      have HLL:=hid hln
      clear hln
      generalize wm.alloc (.cells #[Value.slice none 0 0,Value.int .i64 0] 182)=W2 at *
      have hWr0:WrB W2 (wm.heap.size+1) wm.heap.size 182 [] (.slice none 0 0) []:=⟨hB2,Ow.nil,by omega,fun c hc=>by cases hc⟩
      have HLO:=hid hPlo
      have HHI:=hid hPhi
      clear hPlo hPhi hB2
      go_loopw [53] (fun iv wr2=>∃ (k:Nat) (bv:Value),k<=l.length/\iv=N k/\WrB wr2 (wm.heap.size+1) wm.heap.size 182 [] bv (efLow n (l.take k))/\WSt wm.heap.size (.slice none 0 0) bv W2 wr2) (fun iv _=>l.length - (intOf iv).toNat)
      case atStart=>exact⟨0,_,Nat.zero_le _,rfl,hWr0,WSt.refl _ _ _⟩
      case round=>
       clear hWr0
       obtain⟨k,bv,hk,rfl,hWB,hst⟩:=hrel
       have hfw:Fr wm wr:=wst_fr (WSt.fr hA2 hst) (Nat.le_refl _)
       have hszw:wm.heap.size+1<=wr.heap.size:=by have:=hst.1.size;omega
       by_cases hlt:k<l.length
       · obtain⟨b,off,cap',hv',c0⟩:=uAt ((HLO.out.fr hfw).see) k (by rw [List.length_map];exact hlt)
         rw [List.length_map]at hv'
         have HS:=hid (efLow_snoc n l k hlt)
         rw [List.getElem_map]at c0
         have hxp:l[k] % 2 ^ n<2 ^ n:=Nat.mod_lt _ (Nat.two_pow_pos n)
         have hxb:l[k] % 2 ^ n<18446744073709551616:=Nat.lt_of_lt_of_le hxp (Nat.le_trans (Nat.pow_le_pow_right (by omega) hn14) (by omega))
         have HL0:=HLL.out k
         generalize l[k] % 2 ^ n=y at *
         generalize efLow n (l.take k)=m at *
         have HPut:=hid (bput_any y n (by omega) hxp (wm.heap.size+1) wm.heap.size _ [] bv m wr hWB (by omega) hszw)
         have q0:=hfw.cell p0
         have HXP:=hid hxp
         clear hxp hWB
         have w1:IntKind.u64.wrap (y:Int)=(y:Int):=IntWalk.u64_in _ (by omega)
         have HXB:=hid hxb
         clear hxb
         cases hv'
         have i1:(0:Int)<=k:=by omega
         have i2:(k:Int)<l.length:=by omega
         go_wp2_with fail
         refine HPut.out.mono ?_
         rintro e w4 ⟨rfl,bv',hW',hst'⟩
         go_wp2_with fail
         go_roundw
         case rel=>exact⟨k+1,bv',by omega,by go_num,by rw [HS.out];exact hW',hst.trans hst'⟩
         case measure=>simp [intOf];omega
       · obtain rfl:k=l.length:=by omega
         have hnl2:¬((l.length:Int)<l.length):=by omega
         rw [List.take_length]at hWB
         have q1:=hfw.cell p1
         have HLen:Hid ((efLow n l).length<=280000):=by have:=HLL.out l.length;rw [List.take_length]at this;exact this
         clear HLL
         go_wp2_with fail
         go_loopw [13,66] (fun tv iv wr2=>∃ (k was:Nat) (bv:Value) (m:List UInt8),k<=l.length/\iv=N k/\tv=N was/\was<=20000/\m.length<=280000+was+k/\WrB wr2 (wm.heap.size+1) wm.heap.size 182 [] bv m/\WSt wm.heap.size (.slice none 0 0) bv W2 wr2/\Hid (efLow n l++efHigh n 0 l=m++efHigh n was (l.drop k))/\Hid (∃ lo,risesGo bound lo (l.drop k)=true/\was<=lo / 2 ^ n)) (fun _ iv _=>l.length - (intOf iv).toNat)
         case atStart=>exact⟨0,0,bv,efLow n l,Nat.zero_le _,rfl,rfl,by omega,by have:=HLen.out;omega,hWB,hst,rfl,0,HRi.out,Nat.zero_le _⟩
         case round=>
          clear hWB hst
          clear hfw hszw
          obtain⟨k,was,bv,m,hk,rfl,rfl,hws,hml,hW,hst,HI,HR⟩:=hrel
          have hfw:Fr wm wr:=wst_fr (WSt.fr hA2 hst) (Nat.le_refl _)
          have hszw:wm.heap.size+1<=wr.heap.size:=by have:=hst.1.size;omega
          by_cases hlt:k<l.length
          · obtain⟨b,off,cap',hv',c0⟩:=jAt ((HHI.out.fr hfw).see) k (by rw [List.length_map];exact hlt)
            rw [List.length_map]at hv'
            rw [List.getElem_map]at c0
            have HS:=hid (efHigh_cons n was l k hlt)
            have HXb:=HX.out _ (List.getElem_mem hlt)
            have hRR:was<=l[k] / 2 ^ n/\∃ lo,risesGo bound lo (l.drop (k+1))=true/\l[k] / 2 ^ n<=lo / 2 ^ n:=by
             obtain⟨lo,h1,h2⟩:=HR.out
             rw [rises_cons bound lo l k hlt]at h1
             simp only [Bool.and_eq_true,decide_eq_true_eq]at h1
             exact⟨Nat.le_trans h2 (Nat.div_le_div_right h1.1.1),l[k]+1,h1.2,Nat.div_le_div_right (by omega)⟩
            obtain⟨hwx,hR2⟩:=hRR
            have HR2:=hid hR2
            clear hR2 HR
            have HI2:Hid (efLow n l++efHigh n 0 l=(m++unaryL (l[k] / 2 ^ n - was))++efHigh n (l[k] / 2 ^ n) (l.drop (k+1))):=by
             show _=_;rw [HI.out,HS.out];simp
            clear HI HS
            generalize l[k]=x at *
            have hyx:x / 2 ^ n<=x:=Nat.div_le_self _ _
            generalize x / 2 ^ n=y at *
            have hul:=unaryL_len (y - was)
            have HUn:=hid (bun_any (y - was) (by omega) (wm.heap.size+1) wm.heap.size _ [] bv m wr hW (by omega) hszw)
            cases hv'
            have i1:(0:Int)<=k:=by omega
            have i2:(k:Int)<l.length:=by omega
            have hsub:(y:Int) - was=((y - was:Nat):Int):=by omega
            have hml2:(m++unaryL (y - was)).length<=280000+y+(k+1):=by rw [List.length_append,hul];omega
            have HM2:=hid hml2
            clear hml2 hul hW
            generalize y - was=d at *
            go_wp2_with fail
            refine HUn.out.mono ?_
            rintro e w4 ⟨rfl,bv',hW',hst'⟩
            go_wp2_with fail
            go_roundw
            case rel=>exact⟨k+1,y,bv',m++unaryL d,by omega,by go_num,rfl,by omega,HM2.out,hW',hst.trans hst',HI2.out,HR2.out⟩
            case measure=>simp [intOf];omega
          · obtain rfl:k=l.length:=by omega
            have hnl2:¬((l.length:Int)<l.length):=by omega
            have HE:Hid (efL bound l=nb++packW m):=by
             have:=HI.out
             rw [List.drop_length,efHigh,List.append_nil]at this
             show _=_;rw [HEf.out,this]
            clear HI HR HEf
            have HBy:=hid (fun W (h:WrB W (wm.heap.size+1) wm.heap.size 182 [] bv m)=>bbytes_any (wm.heap.size+1) wm.heap.size 182 [] bv m W h (by omega))
            have hpl:=packW_len m
            have hpl2:(packW m).length<=100000:=by omega
            clear hpl
            generalize packW m=pk at *
            have HAll:=hid (fun W v0 v1 p0 p1 s0 s1 hn=>all2 W v0 v1 p0 p1 s0 s1 hn)
            go_wp2_with fail
            refine(HBy.out _ hW).mono ?_
            rintro e w5 ⟨v5,rfl,hown5,hf5⟩
            have hF5:=hFR.trans (hfw.trans hf5)
            have hs2:See w5 eB v2 nb:=(hown2.fr (HF23.out.trans (hfw.trans hf5))).see
            have HA:=hid (HAll.out w5 v2 v5 nb pk hs2 hown5.see (by omega))
            obtain⟨x2,c2,hv2⟩:=hown2.shape'
            obtain⟨x5,c5,hv5⟩:=hown5.shape'
            subst hv2 hv5
            go_wp2_with fail
            refine HA.out.mono ?_
            rintro e w6 ⟨v6,rfl,hown6,hf6⟩
            go_wp2_with fail
            go_ret2
            exact⟨_,rfl,by rw [HE.out];exact hown6.rebase hF5.size,hF5.trans hf6⟩
def bytesB(b:Bool)(l:List Rec):List UInt8:=(l.map (oneB b)).flatten
theorem bytesB_snoc(b:Bool)(l:List Rec)(k:Nat)(h:k<l.length):bytesB b (l.take (k+1))=bytesB b (l.take k)++oneB b l[k]:=flat_map_snoc _ l k h
theorem bytesB_take(b:Bool)(l:List Rec)(k:Nat):(bytesB b (l.take k)).length<=(bytesB b l).length:=by
 unfold bytesB;rw [flat_len,flat_len];exact wtS_take_le _ l k
theorem BytesG_any(wh:Bool)(H1:Hid (∀ (r:Rec) (W:World),r.source.length<=100000->r.text.length<=100000->Calls Tryz.prog 45 #[.bool wh,recV r] W fun e w'=>∃ v,e=.returned v/\Ow w' W.heap.size eB v (oneB wh r)/\Fr W w'))(v:Value)(l:List Rec)(w:World)(hs:See w eR v l)(hl:(bytesB wh l).length<=1000000)(hb:∀ r∈l,r.source.length<=100000/\r.text.length<=100000) :
  Calls Tryz.prog 30 #[.bool wh,v] w fun e w'=>∃ v,e=.returned v/\Ow w' w.heap.size eB v (bytesB wh l)/\Fr w w':=by
 obtain⟨a,cap,rfl,hcap1,hcap2,hnone⟩:=hs.shape
 unfold maxLen at hcap2
 have HB:=hid hb
 clear hb
 go_enter Tryz.func30, Tryz.ntmps30
 go_wp2_with fail
 go_loopw [5,10] (fun ov iv wr=>∃ k:Nat,k<=l.length/\iv=N k/\Ow wr w.heap.size eB ov (bytesB wh (l.take k))/\Fr w wr) (fun _ iv _=>l.length - (intOf iv).toNat)
 case atStart=>exact⟨0,Nat.zero_le _,rfl,Ow.nil,Fr.refl w⟩
 case round=>
  obtain⟨k,hk,rfl,hout,hf⟩:=hrel
  by_cases hlt:k<l.length
  · obtain⟨b,off,cap',hv,c0,c1,c2,c3⟩:=recAt (hs.fr hf) k hlt
    have HN:=hid (bytesB_snoc wh l k hlt)
    have hle:=bytesB_take wh l (k+1)
    rw [HN.out,List.length_append]at hle
    have hbk:=HB.out _ (List.getElem_mem hlt)
    have HO:=hid (fun W=>H1.out l[k] W hbk.1 hbk.2)
    generalize l[k]=r at *
    cases hv
    have i1:(0:Int)<=k:=by omega
    have i2:(k:Int)<l.length:=by omega
    go_wp2_with fail
    refine(HO.out _).mono ?_
    rintro e w1 ⟨v1,rfl,hown1,hf1⟩
    have hf0:=hf.alloc (.cells #[.int .u64 r.time.toNat,Fk.u8 r.level,S r.source,S r.text] 36)
    have hout1:=(hout.fr ((Fr.refl wr).alloc (.cells #[.int .u64 r.time.toNat,Fk.u8 r.level,S r.source,S r.text] 36))).fr hf1
    go_wp2_with (at_builtin;refine wpList_app eB rfl (.tmp 14) (.tmp 17) 27 rfl Tryz.underlying27 w.heap.size rfl hout1 _ _ rfl hown1.see (by omega) (hf0.trans hf1).size ?_)
    intro v' w4 hap
    go_wp2_with fail
    exact⟨⟨k+1,by omega,by go_num,by rw [HN.out];exact hap.own,hap.below hout1 (hf0.trans hf1) (Nat.le_refl _) (hf0.trans hf1).size⟩,by simp [intOf];omega⟩
  · obtain rfl:k=l.length:=by omega
    have hnl:¬((l.length:Int)<l.length):=by omega
    rw [List.take_length]at hout
    go_wp2_with fail
    go_ret
    exact⟨_,rfl,hout,hf⟩
theorem Bytes_any(v:Value)(l:List Rec)(w:World)(hs:See w eR v l)(hl:(bytesB false l).length<=1000000)(hb:∀ r∈l,r.source.length<=100000/\r.text.length<=100000) :
  Calls Tryz.prog 30 #[.bool false,v] w fun e w'=>∃ v,e=.returned v/\Ow w' w.heap.size eB v (bytesB false l)/\Fr w w':=
 BytesG_any false (fun r W h1 h2=>one_any r W h1 h2) v l w hs hl hb
def lenR(b:Bool)(r:Rec):Nat:=(oneB b r).length
theorem set_last(m:List Nat)(x y:Nat):(m++[x]).set m.length y=m++[y]:=by
 rw [List.set_append_right _ _ (Nat.le_refl _),Nat.sub_self];rfl
theorem GroupsG_any(wh:Bool)(H1:Hid (∀ (r:Rec) (W:World),r.source.length<=100000->r.text.length<=100000->Calls Tryz.prog 45 #[.bool wh,recV r] W fun e w'=>∃ v,e=.returned v/\Ow w' W.heap.size eB v (oneB wh r)/\Fr W w'))(sz:Nat)(hsz:2<=sz)(hsz2:sz<=1000000)(v:Value)(l:List Rec)(w:World)(hs:See w eR v l)(hl:l.length<=1000000)(hb:∀ r∈l,r.source.length<=100000/\r.text.length<=100000) :
  Calls Tryz.prog 24 #[N sz,.bool wh,v] w fun e w'=>∃ v,e=.returned v/\Ow w' w.heap.size eJ v (groupsL sz (lenR wh) l)/\Fr w w':=by
 obtain⟨a,cap,rfl,hcap1,hcap2,hnone⟩:=hs.shape
 unfold maxLen at hcap2
 have HB:=hid hb
 clear hb
 have hs1:(1:Int)<sz:=by omega
 go_enter Tryz.func24, Tryz.ntmps24
 go_wp2_with fail
 go_loopw [7,8,14] (fun ov hv iv wr=>∃ (k h:Nat) (m:List Nat),k<=l.length/\iv=N k/\hv=N h/\h<=1000000+300000/\m.length<=k/\Ow wr w.heap.size eJ ov m/\Hid ((k=0/\m=[]/\h=0)\/∃ c d,m=d++[c]/\c<=k/\groupsL sz (lenR wh) l=d++grpGo sz (lenR wh) c h (l.drop k))/\Fr w wr) (fun _ _ iv _=>l.length - (intOf iv).toNat)
 case atStart=>exact⟨0,0,[],Nat.zero_le _,rfl,rfl,by omega,Nat.le_refl _,Ow.nil,.inl ⟨rfl,rfl,rfl⟩,Fr.refl w⟩
 case round=>
  obtain⟨k,h,m,hk,rfl,rfl,hh,hmk,hout,HI,hf⟩:=hrel
  by_cases hlt:k<l.length
  · obtain⟨b,off,cap',hv,c0,c1,c2,c3⟩:=recAt (hs.fr hf) k hlt
    have hbk:=HB.out _ (List.getElem_mem hlt)
    have HO:=hid (fun W=>H1.out l[k] W hbk.1 hbk.2)
    have hol:lenR wh l[k]<=200031:=by have:=oneB_len wh l[k] hbk.1 hbk.2;unfold lenR;omega
    have HDr:=hid (List.drop_eq_getElem_cons hlt)
    have HG0:Hid (k=0->groupsL sz (lenR wh) l=grpGo sz (lenR wh) 1 (lenR wh l[k]) (l.drop (k+1))):=by
     intro h0;subst h0
     cases l with
     | nil=>simp at hlt
     | cons r l=>rfl
    have HLn:Hid (lenR wh l[k]=(oneB wh l[k]).length):=rfl
    generalize hnr:lenR wh l[k]=n at *
    generalize l[k]=r at *
    have HNr:=hid hnr
    clear hnr
    cases hv
    have i1:(0:Int)<=k:=by omega
    have i2:(k:Int)<l.length:=by omega
    have hf0:=hf.alloc (.cells #[.int .u64 r.time.toNat,Fk.u8 r.level,S r.source,S r.text] 36)
    have hout0:=hout.fr ((Fr.refl wr).alloc (.cells #[.int .u64 r.time.toNat,Fk.u8 r.level,S r.source,S r.text] 36))
    have hwh:IntKind.i64.wrap ((h:Int)+n)=(h:Int)+n:=IntWalk.i64_in _ (by omega)
    go_wp2_with fail
    refine(HO.out _).mono ?_
    rintro e w1 ⟨v1,rfl,hown1,hf1⟩
    obtain⟨v1a,v1c,hv1⟩:=hown1.shape'
    rw [<- HLn.out]at hv1
    subst hv1
    have hout1:=hout0.fr hf1
    have hf01:=hf0.trans hf1
    clear hout hout0 hown1 HLn
    by_cases hk0:k=0
    · have hI0:m=[]/\h=0:=by
        rcases HI.out with⟨_,h1,h2⟩ | ⟨c,d,h1,_⟩
        · exact⟨h1,h2⟩
        · rw [h1]at hmk;simp at hmk;omega
      obtain⟨rfl,rfl⟩:=hI0
      have HE:=hid (HG0.out hk0)
      clear HI HG0 HDr
      obtain⟨oa,oc,hov⟩:=hout1.shape'
      rw [List.length_nil]at hov
      subst hov
      go_wp2_with (at_builtin;refine wpList_app1 eJ rfl (.tmp 33) (.tmp 34) 55 rfl Tryz.underlying55 w.heap.size rfl hout1 [0] _ _ _ rfl rfl rfl (by simp) hf01.size ?_)
      intro v' w4 hap
      have hown4:=hap.own
      have hf4:=hap.below hout1 hf01 (Nat.le_refl _) hf01.size
      try rw [List.nil_append]at hown4
      obtain⟨g,gc,hvg,hg1,hg2,_,_⟩:=hown4.atHead (by simp)
      rw [show([(0:Nat)]).length=1 from by simp]at hvg
      subst hvg
      obtain⟨z1,z2⟩:=hown4.cellAt (fun n=>N n) rfl 0 (by simp)
      have hs4:=hown4.set (fun n=>N n) rfl 0 (by simp) 1 (.int .i64 1) rfl
      rw [show([(0:Nat)])[0]'(by simp)=0 from by simp]at z1
      rw [show([(0:Nat)]).set 0 1=[1]from rfl]at hs4
      have hf5:=set_below (i:=0) (u:=.int .i64 1) hf4 hg1 (Fr.size hf4)
      have HS4:=hid hs4
      have HF5:=hid hf5
      clear hown4 hs4 hf5 hf4
      go_wp2_with fail
      exact⟨⟨k+1,0+n,[1],by omega,by go_num,by go_num,by omega,by simp,HS4.out,(by subst hk0;exact .inr ⟨1,[],rfl,by omega,by rw [HE.out];simp⟩),HF5.out⟩,by simp [intOf];omega⟩
    · obtain⟨c,d,rfl,hck,HG⟩:∃ c d,m=d++[c]/\c<=k/\groupsL sz (lenR wh) l=d++grpGo sz (lenR wh) c h (l.drop k):=by
        rcases HI.out with⟨h0,_⟩ | h1
        · exact absurd h0 hk0
        · exact h1
      rw [HDr.out,grpGo,HNr.out]at HG
      have HGh:=hid HG
      clear HI HG0 HG HDr
      obtain⟨oa,oc,hov⟩:=hout1.shape'
      rw [show(d++[c]).length=d.length+1 from by simp]at hov hmk
      subst hov
      have hm0:((d.length:Int)+1 == 0)=false:=by simp;omega
      by_cases hgt:h+n<=sz
      · have hgt':decide ((sz:Int)<(h:Int)+n)=false:=by simp;omega
        have hown4:=hout1
        have hf4:=hf01
        rw [if_pos hgt]at HGh
        have hcb:(c:Int)<=1000000:=by omega
        have hcb0:(0:Int)<=c:=by omega
        obtain⟨g,gc,hvg,hg1,hg2,_,_⟩:=hown4.atHead (by simp)
        rw [show(d++[c]).length=d.length+1 from by simp]at hvg
        cases hvg
        obtain⟨z1,z2⟩:=hown4.cellAt (fun n=>N n) rfl d.length (by simp)
        have hs4:=hown4.set (fun n=>N n) rfl d.length (by simp) (c+1) (.int .i64 ((c:Int)+1)) rfl
        rw [show(d++[c])[d.length]'(by simp)=c from by simp]at z1
        rw [show(d++[c]).set d.length (c+1)=(d++[c+1])from set_last d c (c+1)]at hs4
        have hf5:=set_below (i:=d.length) (u:=.int .i64 ((c:Int)+1)) hf4 hg1 (Fr.size hf4)
        have HS4:=hid hs4
        have HF5:=hid hf5
        clear hown4 hs4 hf5 hf4
        go_wp2_with fail
        exact⟨⟨k+1,h+n,(d++[c+1]),by omega,by go_num,by go_num,by omega,by simp;omega,by simpa using HS4.out,.inr ⟨c+1,d,rfl,by omega,HGh.out⟩,HF5.out⟩,by simp [intOf];omega⟩
      · have hgt':decide ((sz:Int)<(h:Int)+n)=true:=by simp;omega
        have hgt2:(sz:Int)<(h:Int)+n:=by omega
        have hgt3:¬(h:Int)+n<=sz:=by omega
        rw [if_neg hgt]at HGh
        go_wp2_with (at_builtin;refine wpList_app1 eJ rfl (.tmp 33) (.tmp 34) 55 rfl Tryz.underlying55 w.heap.size rfl hout1 [0] _ _ _ rfl rfl rfl (by simp;omega) hf01.size ?_)
        intro v' w4 hap
        have hown4:=hap.own
        have hf4:=hap.below hout1 hf01 (Nat.le_refl _) hf01.size
        have hls:(d++[c]++[0]:List Nat).length=d.length+1+1:=by simp
        have hown4:Ow w4 w.heap.size eJ v' (d++[c]++[0]):=by simpa using hown4
        clear hap
        obtain⟨g,gc,hvg,hg1,hg2,_,_⟩:=hown4.atHead (by simp)
        rw [show(d++[c]++[0]:List Nat).length=d.length+1+1 from by simp]at hvg
        subst hvg
        obtain⟨z1,z2⟩:=hown4.cellAt (fun n=>N n) rfl (d.length+1) (by simp)
        have hs4:=hown4.set (fun n=>N n) rfl (d.length+1) (by simp) 1 (.int .i64 1) rfl
        rw [show(d++[c]++[0]:List Nat)[(d.length+1)]'(by simp)=0 from by simp]at z1
        rw [show(d++[c]++[0]:List Nat).set (d.length+1) 1=(d++[c]++[1])from by simp]at hs4
        have hf5:=set_below (i:=(d.length+1)) (u:=.int .i64 1) hf4 hg1 (Fr.size hf4)
        have HS4:=hid hs4
        have HF5:=hid hf5
        clear hown4 hs4 hf5 hf4
        go_wp2_with fail
        exact⟨⟨k+1,n,(d++[c]++[1]),by omega,by go_num,by go_num,by omega,by simp;omega,by simpa using HS4.out,.inr ⟨1,d++[c],rfl,by omega,by rw [HGh.out];simp⟩,HF5.out⟩,by simp [intOf];omega⟩
  · obtain rfl:k=l.length:=by omega
    have hnl:¬((l.length:Int)<l.length):=by omega
    have HE:Hid (m=groupsL sz (lenR wh) l):=by
     show _=_
     rcases HI.out with⟨h0,rfl,_⟩ | ⟨c,d,h1,_,h2⟩
     · have:l=[]:=List.eq_nil_of_length_eq_zero h0
       subst this;rfl
     · rw [h1,h2,List.drop_length,grpGo]
    go_wp2_with fail
    go_ret
    exact⟨_,rfl,by rw [<- HE.out];exact hout,hf⟩
theorem Groups_any(sz:Nat)(hsz:2<=sz)(hsz2:sz<=1000000)(v:Value)(l:List Rec)(w:World)(hs:See w eR v l)(hl:l.length<=1000000)(hb:∀ r∈l,r.source.length<=100000/\r.text.length<=100000) :
  Calls Tryz.prog 24 #[N sz,.bool false,v] w fun e w'=>∃ v,e=.returned v/\Ow w' w.heap.size eJ v (groupsL sz (lenR false) l)/\Fr w w':=
 GroupsG_any false (fun r W h1 h2=>one_any r W h1 h2) sz hsz hsz2 v l w hs hl hb
structure ItM where
 it:It
 hd:Hd
def ValM(w:World)(ms:List ItM):Prop:=∀ m∈ms,See w eJ m.hd.v m.it.syms
theorem ValM.fr{w w':World}{ms:List ItM}(h:ValM w ms)(hf:Fr w w'):ValM w' ms:=fun m hm=>(h m hm).fr hf
end Go.Proofs.YtdagmoonnbnceaaGreatDoor
