/- Parts of the proof of ThreeOpens: Q1 Ck Cl Cm E2 E3 Ch Q2 E4 Cn. -/
import Derived.Test.YtijghcbpfcjjnaaGreatDoorM10
import Derived.Test.YtijghcbpfcjjnaaGreatDoorM01
import Derived.Test.YtijghcbpfcjjnaaGreatDoorM06
import Derived.Test.YtijghcbpfcjjnaaGreatDoorM15
import Derived.Test.YtijghcbpfcjjnaaGreatDoorM04
import Derived.Test.YtijghcbpfcjjnaaGreatDoorM05
import Derived.Test.YtijghcbpfcjjnaaGreatDoorM11
import Derived.Test.YtijghcbpfcjjnaaGreatDoorM12
set_option linter.unusedVariables false
set_option linter.unusedSectionVars false
set_option linter.unusedSimpArgs false
set_option maxHeartbeats 8000000
namespace Go.Proofs.YtijghcbpfcjjnaaGreatDoor
open Go.RowKit Go.Fk
def wt1(r:Rec):Nat:=16+r.source.length+r.text.length
def longR(r:Rec):Bool:=decide (4000<r.source.length) || decide (4000<r.text.length)
def okLog(l:List Rec):Bool:=decide (l.length<=20000) && (l.all fun r=>!longR r) && decide (wtS wt1 l<=1048576)
abbrev recV(r:Rec):Value:=.agg #[.int .u64 r.time.toNat,Fk.u8 r.level,S r.source,S r.text]
set_option maxRecDepth 100000
theorem long_any(r:Rec)(w:World):Calls Tryz.prog 99 #[recV r] w fun e w'=>e=.returned (.bool (longR r))/\Fr w w':=by
 have HR:Hid (longR r=(decide (4000<r.source.length) || decide (4000<r.text.length))):=rfl
 by_cases h1:4000<r.source.length
 · have h1':(4000:Int)<r.source.length:=by omega
   have HE:Hid (longR r=true):=by show _=_;rw [HR.out,decide_eq_true h1];rfl
   go_enter Tryz.func99, Tryz.ntmps99
   go_wp2_with fail
   go_ret
   exact⟨by rw [HE.out];rfl,(Fr.refl w).alloc _⟩
 · have h1':¬(4000:Int)<r.source.length:=by omega
   by_cases h2:4000<r.text.length
   · have h2':(4000:Int)<r.text.length:=by omega
     have HE:Hid (longR r=true):=by show _=_;rw [HR.out,decide_eq_true h2];simp
     go_enter Tryz.func99, Tryz.ntmps99
     go_wp2_with fail
     go_ret
     exact⟨by rw [HE.out];rfl,(Fr.refl w).alloc _⟩
   · have h2':¬(4000:Int)<r.text.length:=by omega
     have HE:Hid (longR r=false):=by show _=_;rw [HR.out,decide_eq_false h1,decide_eq_false h2];rfl
     go_enter Tryz.func99, Tryz.ntmps99
     go_wp2_with fail
     go_ret
     exact⟨by rw [HE.out];rfl,(Fr.refl w).alloc _⟩
theorem QWeight_any(v:Value)(l:List Rec)(w:World)(hs:See w eR v l)(hl:l.length<=20000)(hb:∀ r∈l,wt1 r<=8016) :
  Calls Tryz.prog 100 #[v] w fun e w'=>e=.returned (N (wtS wt1 l))/\Fr w w':=by
 obtain⟨a,cap,hv,hcap1,hcap2,hnone⟩:=hs.shape
 subst hv
 have HTk:=hid (fun k=>wtS_le wt1 8016 (l.take k) (fun x hx=>hb x (List.mem_of_mem_take hx)))
 have HB:=hid hb
 clear hb
 go_enter Tryz.func100, Tryz.ntmps100
 go_wp2_with fail
 go_loopw [3,8] (fun sv iv wr=>∃ k:Nat,k<=l.length/\iv=N k/\sv=N (wtS wt1 (l.take k))/\Fr w wr) (fun _ iv _=>l.length - (intOf iv).toNat)
 case atStart=>exact⟨0,Nat.zero_le _,rfl,rfl,Fr.refl w⟩
 case round=>
  obtain⟨k,hk,rfl,rfl,hf⟩:=hrel
  have hbd:=HTk.out k
  rw [List.length_take,Nat.min_eq_left hk]at hbd
  have hbd2:wtS wt1 (l.take k)<=20000*8016:=Nat.le_trans hbd (Nat.mul_le_mul (by omega) (Nat.le_refl _))
  clear hbd
  by_cases hlt:k<l.length
  · obtain⟨b,off,cap',hv,c0,c1,c2,c3⟩:=recAt (hs.fr hf) k hlt
    have HN:=hid (wtS_snoc wt1 l k hlt)
    have h1:wt1 l[k]<=8016:=HB.out _ (List.getElem_mem hlt)
    generalize wtS wt1 (l.take k)=sum at *
    generalize l[k]=r at *
    cases hv
    unfold wt1 at h1
    have i1:(0:Int)<=k:=by omega
    have i2:(k:Int)<l.length:=by omega
    go_wp2_with fail
    exact⟨⟨k+1,by omega,by go_num,by rw [HN.out];unfold wt1;go_num,hf.alloc _⟩,by simp [intOf];omega⟩
  · obtain rfl:k=l.length:=by omega
    have hnl:¬((l.length:Int)<l.length):=by omega
    rw [List.take_length]at *
    go_wp2_with fail
    go_ret
    exact⟨rfl,hf⟩
theorem indexLong_any(v:Value)(l:List Rec)(w:World)(hs:See w eR v l) :
  Calls Tryz.prog 154 #[v,.func (.func 99) #[] #[]] w fun e w'=>∃ x:Int,e=.returned (.int .i64 x)/\Hid (decide (0<=x)=l.any longR)/\Fr w w':=by
 obtain⟨a,cap,hv,hcap1,hcap2,hnone⟩:=hs.shape
 subst hv
 unfold maxLen at hcap2
 have HL:=hid long_any
 go_enter Tryz.func154, Tryz.ntmps154
 go_wp2_with fail
 go_loopw [8] (fun iv wr=>∃ k:Nat,k<=l.length/\iv=N k/\Hid ((l.take k).any longR=false)/\Fr w wr) (fun iv _=>l.length - (intOf iv).toNat)
 case atStart=>exact⟨0,Nat.zero_le _,rfl,rfl,Fr.refl w⟩
 case round=>
  obtain⟨k,hk,rfl,HA,hf⟩:=hrel
  by_cases hlt:k<l.length
  · obtain⟨b,off,cap',hv,c0,c1,c2,c3⟩:=recAt (hs.fr hf) k hlt
    have HN:Hid ((l.take (k+1)).any longR=longR l[k]):=by
     show _=_;rw [List.take_succ_eq_append_getElem hlt,List.any_append,HA.out];simp
    have HX:Hid (longR l[k]=true->l.any longR=true):=fun h=>List.any_eq_true.2 ⟨_,List.getElem_mem hlt,h⟩
    generalize l[k]=r at *
    cases hv
    have HR:=hid (HL.out r)
    have i1:(0:Int)<=k:=by omega
    have i2:(k:Int)<l.length:=by omega
    cases hr:longR r
    · rw [hr]at HR HN HX
      clear hr
      go_wp2_with fail
      refine(HR.out _).mono ?_
      rintro e w1 ⟨rfl,hf1⟩
      go_wp2_with fail
      exact⟨⟨k+1,by omega,by go_num,HN.out,hf.trans hf1⟩,by simp [intOf];omega⟩
    · have HX2:=hid (HX.out hr)
      rw [hr]at HR HN
      clear hr HX
      go_wp2_with fail
      refine(HR.out _).mono ?_
      rintro e w1 ⟨rfl,hf1⟩
      go_wp2_with fail
      go_ret
      exact⟨_,rfl,by show _=_;rw [HX2.out];simp,hf.trans hf1⟩
  · obtain rfl:k=l.length:=by omega
    have hnl:¬((l.length:Int)<l.length):=by omega
    rw [List.take_length]at HA
    go_wp2_with fail
    go_ret
    exact⟨_,rfl,by show _=_;rw [HA.out];rfl,hf⟩
theorem hasLong_any(v:Value)(l:List Rec)(w:World)(hs:See w eR v l) :
  Calls Tryz.prog 98 #[v,.func (.func 99) #[] #[]] w fun e w'=>e=.returned (.bool (l.any longR))/\Fr w w':=by
 obtain⟨a,cap,hv,hcap1,hcap2,hnone⟩:=hs.shape
 have HI:=hid (indexLong_any v l w hs)
 subst hv
 go_enter Tryz.func98, Tryz.ntmps98
 go_wp2_with fail
 refine HI.out.mono ?_
 rintro e w1 ⟨x,rfl,HX,hf⟩
 go_wp2_with fail
 go_ret
 exact⟨by rw [<- HX.out];rfl,hf⟩
theorem QCheck_any(v:Value)(l:List Rec)(w:World)(hs:See w eR v l) :
  Calls Tryz.prog 51 #[v] w fun e w'=>e=.returned (.int .i64 (if okLog l then 0 else 6))/\Fr w w':=by
 obtain⟨a,cap,hv,hcap1,hcap2,hnone⟩:=hs.shape
 have HL:=hid (fun W h=>hasLong_any v l W h)
 have HW:=hid (fun W h=>QWeight_any v l W h)
 have HR:Hid ((if okLog l then(0:Int)else 6)=if(decide (l.length<=20000) && (l.all fun r=>!longR r) && decide (wtS wt1 l<=1048576))=true then 0 else 6):=rfl
 have HAll:Hid ((l.all fun r=>!longR r) = !(l.any longR)):=by show _=_;rw [List.not_any_eq_all_not]
 generalize (if okLog l then(0:Int)else 6)=R at *
 rw [HAll.out]at HR
 subst hv
 unfold maxLen at hcap2
 by_cases h1:l.length<=20000
 · have h1':¬(20000:Int)<l.length:=by omega
   rw [decide_eq_true h1]at HR
   cases ha:l.any longR
   · have hb:∀ r∈l,wt1 r<=8016:=by
       intro r hr
       have h2:longR r=false:=by
        cases hx:longR r
        · rfl
        · rw [List.any_eq_true.2 ⟨r,hr,hx⟩]at ha;cases ha
       unfold longR at h2
       simp only [Bool.or_eq_false_iff,decide_eq_false_iff_not]at h2
       unfold wt1;omega
     rw [ha]at HR HL
     have HW2:=hid (fun W h=>HW.out W h h1 hb)
     clear HAll HW hb ha
     by_cases h3:wtS wt1 l<=1048576
     · rw [decide_eq_true h3]at HR
       have h3':¬(1048576:Int)<wtS wt1 l:=by omega
       have HE:Hid (R=0):=by show _=_;rw [HR.out];rfl
       generalize wtS wt1 l=wt at *
       go_enter Tryz.func51, Tryz.ntmps51
       go_wp2_with fail
       refine(HL.out _ hs).mono ?_
       rintro e w1 ⟨rfl,hf1⟩
       go_wp2_with fail
       refine(HW2.out _ (hs.fr hf1)).mono ?_
       rintro e w2 ⟨rfl,hf2⟩
       go_wp2_with fail
       go_ret
       exact⟨by rw [HE.out];rfl,hf1.trans hf2⟩
     · rw [decide_eq_false h3]at HR
       have h3':(1048576:Int)<wtS wt1 l:=by omega
       have HE:Hid (R=6):=by show _=_;rw [HR.out];rfl
       generalize wtS wt1 l=wt at *
       go_enter Tryz.func51, Tryz.ntmps51
       go_wp2_with fail
       refine(HL.out _ hs).mono ?_
       rintro e w1 ⟨rfl,hf1⟩
       go_wp2_with fail
       refine(HW2.out _ (hs.fr hf1)).mono ?_
       rintro e w2 ⟨rfl,hf2⟩
       go_wp2_with fail
       go_ret
       exact⟨by rw [HE.out];rfl,hf1.trans hf2⟩
   · rw [ha]at HR HL
     have HE:Hid (R=6):=by show _=_;rw [HR.out];rfl
     clear HAll ha
     go_enter Tryz.func51, Tryz.ntmps51
     go_wp2_with fail
     refine(HL.out _ hs).mono ?_
     rintro e w1 ⟨rfl,hf1⟩
     go_wp2_with fail
     go_ret
     exact⟨by rw [HE.out];rfl,hf1⟩
 · have h1':(20000:Int)<l.length:=by omega
   rw [decide_eq_false h1]at HR
   have HE:Hid (R=6):=by show _=_;rw [HR.out];rfl
   go_enter Tryz.func51, Tryz.ntmps51
   go_wp2_with fail
   go_ret
   exact⟨by rw [HE.out];rfl,Fr.refl w⟩
set_option maxRecDepth 512
end Go.Proofs.YtijghcbpfcjjnaaGreatDoor
namespace Go.Fk
open Go.RowKit
section
variable {P:Program} {α:Type} {E:Elt P α} {w:World} {base:Nat}
theorem run_copyRest(hk:E.k=1)(dT sT ty:TypeId)(hu:P.underlying dT=some (.slice E.e))(g off m n cap dcap c:Nat)(y:Value)(z l:List α)
  (hown:Ow w base E (.slice (some ⟨g,0,none⟩) n cap) z) (hsee:See w E y l) (hc:c=min m l.length) (hp:0<c) (hfit:off+m=z.length) :
  ∃ w',(Builtin.copy_ #[dT,sT] ty #[.slice (some ⟨g,off,none⟩) m dcap,y]).run P w=.ok (goInt c) w'/\Ow w' base E (.slice (some ⟨g,0,none⟩) n cap) (z.take off++(l.take c++z.drop (off+c)))/\Chg (fun k=>k=g) w w':=by
 obtain⟨i,hi,hz,hi1,hi2⟩:=info_parts E.info
 have hsz:(P.info? E.e).map (·.size)=some 1:=by simp [hi,hi1,hk]
 have hl:l≠[]:=by intro e;subst e;simp at hc;omega
 obtain⟨hnz,hb,cur,hg,c1,c2,c3,c4⟩:=hown.parts
 obtain⟨b,off2,cap2,hye,_,_,hcell⟩:=hsee.cells hl
 rw [hk,Nat.mul_one]at c3 c4
 have htl:(l.take c).length=c:=by rw [List.length_take];omega
 have hel:=E.length_cells (l.take c)
 rw [hk,Nat.mul_one,htl]at hel
 have hcl:cur.toList.length=cap:=by simpa using c3
 have hrun := run_copy_row (P := P) w dT sT ty E.e g off m dcap ⟨b, off2, none⟩ l.length cap2 cur E.e (E.cells (l.take c)) hu hsz hg (by rw [hel, hc]; exact Nat.min_comm _ _) (by
  intro j u hj
  rw [Addr.add_lit]
  have hjl := (List.getElem?_eq_some_iff.1 hj).1
  rw [hel] at hjl
  have := E.cells_at (l.take c) j (by omega) 0 (by omega)
  rw [hk, Nat.mul_one, Nat.add_zero, hj, List.getElem_take] at this
  have h2 := hcell j (by omega) 0 (by omega) u this.symm
  rw [hk, Nat.mul_one, Nat.add_zero] at h2
  exact h2) (by rw [hel]; omega) (E.cells_mem _)
 rw [hel]at hrun
 rw [hye]
 have hlen:(z.take off++(l.take c++z.drop (off+c))).length=z.length:=by
  rw [List.length_append,List.length_append,List.length_take,List.length_drop,htl];omega
 refine⟨_,hrun,⟨E.length_cells _,.inr ⟨g,cap,_,by rw [hlen,hnz],hb,setRow_heap w g _ _ _ _ hg,by rw [hlen];exact c1,c2,?_,?_⟩⟩,⟨rfl,rfl,rfl,by simp [World.setRow],fun k _ hn=>setRow_other w g k _ hn⟩⟩
 · rw [hk,Nat.mul_one]
   simp only [List.size_toArray,List.length_append,List.length_take,List.length_drop,hel,hcl]
   omega
 · rw [hk,Nat.mul_one,hlen,E.cells_append,E.cells_append]
   have hzt:(E.cells (z.take off)).length=off:=by rw [E.length_cells,hk,Nat.mul_one,List.length_take];omega
   have e1:E.cells (z.take off)=(E.cells z).take off:=by
    have:=E.cells_append (z.take off) (z.drop off)
    rw [List.take_append_drop]at this
    rw [this,List.take_append_of_le_length (Nat.le_of_eq hzt.symm),List.take_of_length_le (Nat.le_of_eq hzt)]
   have hzt2:(E.cells (z.take (off+c))).length=off+c:=by rw [E.length_cells,hk,Nat.mul_one,List.length_take];omega
   have e2:E.cells (z.drop (off+c))=(E.cells z).drop (off+c):=by
    have:=E.cells_append (z.take (off+c)) (z.drop (off+c))
    rw [List.take_append_drop]at this
    rw [this,List.drop_append_of_le_length (Nat.le_of_eq hzt2.symm),List.drop_of_length_le (Nat.le_of_eq hzt2),List.nil_append]
   rw [e1,e2,<- c4]
   have f1:(cur.toList.take off).length=off:=by rw [List.length_take];omega
   have f2:(cur.toList.take z.length).take off=cur.toList.take off:=by rw [List.take_take,Nat.min_eq_left (by omega)]
   have f3:(cur.toList.take z.length).drop (off+c)=(cur.toList.drop (off+c)).take (z.length - (off+c)):=by rw [List.drop_take]
   rw [f2,f3,List.append_assoc,take_two _ _ _ _ (by rw [f1,hel];omega),f1,hel,show z.length - off - c=z.length - (off+c) by omega]
theorem run_from_at(hk1:E.k=1)(t:TypeId)(ht:P.underlying t=some (.slice E.e)){n cap g:Nat}{l:List α}(h:Ow w base E (.slice (some ⟨g,0,none⟩) n cap) l)(i:Nat)(hi:i<l.length) :
  (∀ W,(Instr.slice t (.slice (some ⟨g,0,none⟩) n cap) (some (.int .i64 (i:Int))) none none).run P W=.ok (.slice (some ⟨g,i,none⟩) (n - i) (cap - i)) W):=by
 obtain⟨hnl,_,_,_,hcap,hmax,_⟩:=h.parts
 have ht':P.underlying t=some (.slice (P.elem t)):=by simp [Program.elem,ht]
 have he:P.elem t=E.e:=by simp [Program.elem,ht]
 intro W
 rw [run_slice_l W t _ _ _ ht' .i64 _ (by omega) (by omega),he,sizeOf_elt]
 simp [Result.andThen,sliced,hk1,Addr.add_lit,show cap≠i by omega]
end
theorem rep_step{α:Type}(x z:α)(k n c:Nat)(hn:n<=k)(hc:c<=n)(hck:n+c<=k):(List.replicate n x++List.replicate (k - n) z).take n++(((List.replicate n x++List.replicate (k - n) z).take n).take c++(List.replicate n x++List.replicate (k - n) z).drop (n+c))=List.replicate (n+c) x++List.replicate (k - (n+c)) z:=by
  have h1:(List.replicate n x++List.replicate (k - n) z).take n=List.replicate n x:=by
    rw [List.take_append_of_le_length (by simp),List.take_of_length_le (by simp)]
  rw [h1,List.take_replicate,Nat.min_eq_left hc,List.drop_append,List.length_replicate,List.drop_of_length_le (by simp),List.nil_append,List.drop_replicate,<- List.append_assoc,List.replicate_append_replicate]
  congr 2
  omega
end Go.Fk
namespace Go.Proofs.YtijghcbpfcjjnaaGreatDoor
open Go.RowKit Go.Fk
theorem and_u64n(a b:Nat)(ha:a<18446744073709551616)(hb:b<18446744073709551616):bits .and .u64 (a:Int) (b:Int)=((a &&& b:Nat):Int):=by
 have hx:a &&& b<2 ^ 64:=Nat.and_lt_two_pow _ (by omega)
 show IntKind.u64.wrap ((BitVec.ofInt 64 (a:Int) &&& BitVec.ofInt 64 (b:Int)).toNat:Int)=_
 rw [BitVec.toNat_and,of_int 64 a (by omega),of_int 64 b (by omega)]
 exact IntWalk.u64_in _ (by omega)
set_option maxRecDepth 100000
theorem mul64_any(k:Nat)(hk:k<=1000000)(w:World):Calls Tryz.prog 259 #[.int .u64 1,.int .u64 (k:Int)] w fun e w'=>e=.returned (.tuple #[.int .u64 0,.int .u64 (k:Int)])/\w=w':=by
 have a1:bits .and .u64 1 4294967295=1:=by decide +kernel
 have a0:bits .and .u64 0 4294967295=0:=by decide +kernel
 have a2:bits .and .u64 (k:Int) 4294967295=(k:Int):=by
  rw [show(4294967295:Int)=((4294967295:Nat):Int)from rfl,and_u64n _ _ (by omega) (by omega),show(4294967295:Nat)=2 ^ 32 - 1 from rfl,Nat.and_two_pow_sub_one_eq_mod,Nat.mod_eq_of_lt (by omega)]
 have d1:(k:Int) / 4294967296=0:=by omega
 have d2:IntKind.u64.wrap (k:Int)=(k:Int):=IntWalk.u64_in _ (by omega)
 have d3:IntKind.u64.wrap 0=0:=by decide
 have d4:IntKind.u64.wrap 1=1:=by decide
 go_enter Tryz.func259, Tryz.ntmps259
 go_wp2_with fail
 go_ret2
 exact⟨rfl,rfl⟩
theorem mulu_any(k:Nat)(hk:k<=1000000)(w:World):Calls Tryz.prog 226 #[.int .u64 1,.int .u64 (k:Int)] w fun e w'=>e=.returned (.tuple #[.int .u64 0,.int .u64 (k:Int)])/\w=w':=by
 have HM:=hid (mul64_any k hk w)
 have d2:IntKind.u64.wrap (k:Int)=(k:Int):=IntWalk.u64_in _ (by omega)
 have d3:IntKind.u64.wrap 0=0:=by decide
 have d4:IntKind.u64.wrap 1=1:=by decide
 go_enter Tryz.func226, Tryz.ntmps226
 go_wp2_with fail
 refine(HM.out).mono ?_
 rintro e w1 ⟨rfl,rfl⟩
 go_wp2_with fail
 go_ret2
 exact⟨rfl,rfl⟩
theorem Repeat_any(x:UInt8)(k:Nat)(hk:k<=1000000)(v:Value)(w:World)(hs:See w eB v [x]) :
  Calls Tryz.prog 191 #[v,N k] w fun e w'=>∃ u,e=.returned u/\Ow w' w.heap.size eB u (List.replicate k x)/\Fr w w':=by
 have HM:=hid (mulu_any k hk w)
 have hmk:=made_run eB rfl rfl 22 Tryz.underlying22 .i64 .i64 k (by omega) w
 have hmo:=made_own (base:=w.heap.size) eB rfl rfl k (by omega) w (Nat.le_refl _)
 have hfx:Fr w (w.alloc (.cells (madeCells #[eB.z] k) eB.e)):=(Fr.refl w).alloc _
 have hsx:=hs.fr hfx
 obtain⟨a0,cap,hv,_⟩:=hs.shape
 subst hv
 have k1:¬(k:Int)<0:=by omega
 have d2:IntKind.u64.wrap (k:Int)=(k:Int):=IntWalk.u64_in _ (by omega)
 have d3:IntKind.i64.wrap (k:Int)=(k:Int):=IntWalk.i64_in _ (by omega)
 have d4:IntKind.u64.wrap 1=1:=by decide
 clear hs
 rw [show(eB:Elt Tryz.prog UInt8).e=5 from rfl]at *
 generalize madeCells #[eB.z] k=T0 at *
 go_enter Tryz.func191, Tryz.ntmps191
 go_wp2_with fail
 refine(HM.out).mono ?_
 rintro e w1 ⟨rfl,rfl⟩
 have k3:¬(9223372036854775807:Int)<k:=by omega
 rcases Nat.eq_zero_or_pos k with rfl | hp
 · have hmk0:(Instr.makeSlice 22 (.int .i64 0) (.int .i64 0)).run Tryz.prog w=.ok (.slice (some ⟨w.heap.size,0,none⟩) 0 0) (w.alloc (.cells T0 5)):=hmk
   clear hmk
   go_wp2_with (refine wpList_copy_nothing rfl (.tmp 31) (.tmp 32) 22 22 rfl 5 Tryz.underlying22 (by kernel_rfl) _ _ _ _ _ _ rfl rfl rfl ?_)
   go_wp2_with fail
   go_loopw [8] (fun nv wr=>nv=N 0/\wr=w.alloc (.cells T0 5)) (fun _ _=>0)
   case atStart=>exact⟨rfl,rfl⟩
   case round=>
    obtain⟨rfl,rfl⟩:=hrel
    go_wp2_with fail
    go_ret
    exact⟨_,rfl,hmo,hfx⟩
 · have hone:(1:Nat)<=k:=hp
   have hset:(([x]:List UInt8)++(List.replicate k eB.zero).drop 1)=List.replicate 1 x++List.replicate (k - 1) eB.zero:=by rw [List.drop_replicate];rfl
   have HSet:=hid hset
   have hgw:w.heap.size<(w.alloc (.cells T0 5)).heap.size:=by simp
   have HMo:=hid hmo
   have HFx:=hid hfx
   clear hset hmo hfx
   go_wp2_with (refine wpList_copyOw rfl rfl (.tmp 31) (.tmp 32) 22 22 rfl Tryz.underlying22 _ _ _ _ rfl rfl HMo.out hsx (by simp;omega) ?_)
   intro w2 hO hc
   have hO1:Ow w2 w.heap.size eB (.slice (some ⟨w.heap.size,0,none⟩) k k) (List.replicate 1 x++List.replicate (k - 1) eB.zero):=by
    have h1:=hO
    rw [show List.replicate 1 x++List.replicate (k - 1) eB.zero=x::List.replicate (k - 1) eB.zero from rfl]
    simpa using h1
   have hf2:Fr w w2:=((HFx.out.chg (fun b=>b=w.heap.size)).trans hc fun i hi h=>by simp [Value.ownBlock]at h;omega).fr (fun i hi h=>by omega)
   clear hO HMo HSet hmk hsx HFx hc
   go_wp2_with fail
   generalize hg:w.heap.size=g at *
   have hgw2:g<=w2.heap.size:=by rw [<- hg];exact hf2.size
   go_loopw [8] (fun nv wr=>∃ n:Nat,1<=n/\n<=k/\nv=N n/\Ow wr g eB (.slice (some ⟨g,0,none⟩) k k) (List.replicate n x++List.replicate (k - n) eB.zero)/\Fr w wr) (fun nv _=>k - (intOf nv).toNat)
   case atStart=>exact⟨1,Nat.le_refl _,hone,rfl,hO1,hf2⟩
   case round=>
    clear hO1 hf2
    obtain⟨n,hn1,hnk,rfl,hO,hf⟩:=hrel
    by_cases hlt:n<k
    · have hzl:(List.replicate n x++List.replicate (k - n) eB.zero).length=k:=by simp;omega
      have hfrom:=run_from_at (P:=Tryz.prog) (E:=eB) rfl 22 Tryz.underlying22 hO n (by rw [hzl];exact hlt)
      obtain⟨hto,hts⟩:=run_to eB 22 Tryz.underlying22 hO.see n (by rw [hzl];exact hnk)
      have hstep:=rep_step x eB.zero k n (min (k - n) n) hnk (by omega) (by omega)
      have HStep:=hid hstep
      have htl:((List.replicate n x++List.replicate (k - n) eB.zero).take n).length=n:=by rw [List.length_take,hzl];omega
      have HTl:=hid htl
      have HZl:=hid hzl
      obtain⟨w4,hrun,hO4,hc4⟩:=run_copyRest (P:=Tryz.prog) (E:=eB) (w:=wr.drew) rfl 22 22 3 Tryz.underlying22 g n (k - n) k k (k - n) (min (k - n) n) _ _ _ hO.drew hts.drew (by rw [htl]) (by omega) (by rw [hzl];omega)
      rw [hstep]at hO4
      have i1:(n:Int)<k:=by omega
      have hmk:n+min (k - n) n<=k:=by omega
      have hmp:0<min (k - n) n:=by omega
      have hf4:Fr w w4:=((hf.drew.chg (fun b=>b=g)).trans hc4 fun _ _ h=>h).fr (fun i hi h=>by omega)
      clear hstep hO hts htl hzl HStep HTl HZl hc4
      generalize min (k - n) n=c at *
      have hw5:IntKind.i64.wrap ((n:Int)+c)=(n:Int)+c:=IntWalk.i64_in _ (by omega)
      go_upto_region 9 with fail
      go_region
      all_goals go_wp2_with fail
      all_goals go_roundw
      all_goals first
       | (simp [intOf];omega)
       | exact⟨n+c,by omega,by omega,by go_num,hO4,hf4⟩
    · obtain rfl:n=k:=by omega
      have hnl:¬((n:Int)<n):=by omega
      rw [Nat.sub_self,List.replicate_zero,List.append_nil]at hO
      go_wp2_with fail
      go_ret
      exact⟨_,rfl,hO,hf⟩
set_option maxRecDepth 512
end Go.Proofs.YtijghcbpfcjjnaaGreatDoor
namespace Go.Proofs.YtijghcbpfcjjnaaGreatDoor
open Go.RowKit Go.Fk
def eQ:Elt Tryz.prog Nat:=⟨95,1,8,0,.int .u64 0,fun n=>[.int .u64 (n:Int)],by kernel_rfl,by decide,by decide,by simp [Value.cells],fun _=>rfl,by intro x u hu;simp at hu;subst hu;rfl⟩
theorem xor_u64n(a b:Nat)(ha:a<18446744073709551616)(hb:b<18446744073709551616):bits .xor .u64 (a:Int) (b:Int)=((a ^^^ b:Nat):Int):=by
 have hx:a ^^^ b<2 ^ 64:=Nat.xor_lt_two_pow (by omega) (by omega)
 show IntKind.u64.wrap ((BitVec.ofInt 64 (a:Int) ^^^ BitVec.ofInt 64 (b:Int)).toNat:Int)=_
 rw [BitVec.toNat_xor,of_int 64 a (by omega),of_int 64 b (by omega)]
 exact IntWalk.u64_in _ (by omega)
set_option maxRecDepth 100000
theorem Zag_any(z:Nat)(hz:z<18446744073709551616)(w:World):Calls Tryz.prog 189 #[.int .u64 (z:Int)] w fun e w'=>e=.returned (.int .u64 (zagN z:Int))/\w=w':=by
 have a1:=and1_u64 z hz
 have HZ:Hid (zagN z=if z % 2=1 then 18446744073709551615 - z / 2 else z / 2):=rfl
 have hdv:(z:Int) / 2=((z / 2:Nat):Int):=by simp
 have hd:z / 2<9223372036854775808:=by omega
 have hx:z / 2 ^^^ 18446744073709551615=18446744073709551615 - z / 2:=xor_ones 64 (z / 2) (by omega)
 generalize zagN z=Q at *
 by_cases h:z % 2=1
 · rw [h]at a1
   rw [if_pos h]at HZ
   have a2:IntKind.u64.wrap (-1)=18446744073709551615:=by decide
   have a3:bits .xor .u64 ((z / 2:Nat):Int) 18446744073709551615=((18446744073709551615 - z / 2:Nat):Int):=by
    rw [show(18446744073709551615:Int)=((18446744073709551615:Nat):Int)from rfl,xor_u64n _ _ (by omega) (by omega),hx]
   rw [<- hdv]at a3
   have HA:=hid a3
   clear hz hd hx h hdv a3
   go_enter Tryz.func189, Tryz.ntmps189
   go_wp2_with fail
   go_ret
   rw [HZ.out,<- HA.out]
   exact⟨rfl,rfl⟩
 · have h0:z % 2=0:=by omega
   rw [h0]at a1
   rw [if_neg h]at HZ
   have a2:IntKind.u64.wrap 0=0:=by decide
   have a3:bits .xor .u64 ((z / 2:Nat):Int) 0=((z / 2:Nat):Int):=by
    rw [show(0:Int)=((0:Nat):Int)from rfl,xor_u64n _ _ (by omega) (by omega),Nat.xor_zero]
   rw [<- hdv]at a3
   have HA:=hid a3
   have HD:=hid hdv
   clear hz hd hx h h0 hdv
   go_enter Tryz.func189, Tryz.ntmps189
   go_wp2_with fail
   go_ret
   rw [HZ.out]
   exact⟨by rw [<- HD.out];first | rfl | (rw [HA.out];rfl),rfl⟩
set_option maxRecDepth 512
theorem CurF.cbox{w:World}{B base n er:Nat}{T:TypeId}{l:List UInt8}(h:CurF w T B base l n er):∃ cs,w.heap[B]?=some (.cells cs T (0,0)):=by obtain⟨⟨v,h1,_⟩,_⟩:=h;exact⟨_,h1⟩
theorem CurF.lt{w:World}{B base n er:Nat}{T:TypeId}{l:List UInt8}(h:CurF w T B base l n er):B<w.heap.size:=by obtain⟨cs,h1⟩:=h.cbox;exact(Array.getElem?_eq_some_iff.1 h1).1
theorem CurF.app{α:Type}{E:Elt Tryz.prog α}{w w':World}{B base n er b:Nat}{T:TypeId}{l:List UInt8}{v v':Value}{xs ys:List α}(h:CurF w T B base l n er)(ho:Ow w b E v xs)(hap:App b E ys w v v' w')(hT:T≠E.e)(hE:E.e≠(eB:Elt Tryz.prog UInt8).e):CurF w' T B base l n er:=by
 obtain⟨⟨x,h1,h2⟩,h3⟩:=h
 exact⟨⟨x,hap.chg'.heap h1 (fun e=>ho.ne_cells h1 hT e),own_app h2.own ho hap hE,h2.top⟩,h3⟩
set_option maxRecDepth 100000
theorem rtimes_any (B base n : Nat) (s0 : Cs) (b : List UInt8) (w : World) (hc : CurF w 183 B base b s0.at_ s0.er) (hl : b.length ≤ 1000000) (hn : n ≤ 20000) :
    Calls Tryz.prog 130 #[.agg #[.pointer (some ⟨B,0,none⟩)],N n] w fun e w'=>∃ u,e=.returned u/\Ow w' w.heap.size eQ u (tmGo b n s0 0 []).1/\CurF w' 183 B base b (tmGo b n s0 0 []).2.at_ (tmGo b n s0 0 []).2.er/\Chg (fun k=>k=B) w w':=by
  have HNum:=hid (fun s W (h:CurF W 183 B base b s.at_ s.er)=>Num_cur B base s b W h hl)
  have HErr:=hid (fun n er W h=>CErr_any B base n er b W h)
  have HSt:Hid (∀ k s was out,k<n->tmGo b (n - k) s was out=if s.er=0 then tmGo b (n - (k+1)) (s.num b).2 ((was+zagN (s.num b).1) % 18446744073709551616) (out++[(was+zagN (s.num b).1) % 18446744073709551616])else(out,s)):=fun k s was out h=>by
    rw [show n - k=(n - (k+1))+1 by omega,tmGo]
  have HLt:Hid (∀ s:Cs,(s.num b).1<18446744073709551616):=fun s=>by
    show s.val _<_
    unfold Cs.val;split
    · exact numL_lt _
    · decide
  obtain⟨R,hR⟩:∃ R,R=tmGo b n s0 0 []:=⟨_,rfl⟩
  rw [<- hR]
  have HR:Hid (R=tmGo b (n - 0) s0 0 []):=hR
  clear hR
  have hBw:=hc.lt
  have hg0:(w.alloc (.cells #[.pointer (some ⟨B,0,none⟩)] 190)).heap[w.heap.size]?=some (.cells #[.pointer (some ⟨B,0,none⟩)] 190 (0,0)):=heap_new _ _ _ rfl
  have hf0:Fr w (w.alloc (.cells #[.pointer (some ⟨B,0,none⟩)] 190)):=(Fr.refl w).alloc _
  have hz0:w.heap.size+1<=(w.alloc (.cells #[.pointer (some ⟨B,0,none⟩)] 190)).heap.size:=by simp
  have hc0:=hc.fr hf0
  clear hc
  go_enter Tryz.func130, Tryz.ntmps130
  go_wp2_with fail
  generalize w.alloc (.cells #[.pointer (some ⟨B,0,none⟩)] 190)=W0 at *
  generalize hg:w.heap.size=g at *
  go_loopw [5,6] (fun ov tv wr=>∃ (k was:Nat) (s:Cs) (out:List Nat),k<=n/\out.length=k/\tv=.int .u64 (was:Int)/\Hid (was<18446744073709551616)/\Ow wr (g+1) eQ ov out/\CurF wr 183 B base b s.at_ s.er/\wr.heap[g]?=some (.cells #[.pointer (some ⟨B,0,none⟩)] 190 (0,0))/\Chg (fun k=>k=B) w wr/\g+1<=wr.heap.size/\Hid (R=tmGo b (n - k) s was out)) (fun ov _ _=>n - (match ov with | .slice _ m _=>m | _=>0))
  case atStart=>exact⟨0,0,s0,[],Nat.zero_le _,rfl,rfl,by show 0<_;decide,Ow.nil,hc0,hg0,hf0.chg _,hz0,HR.out⟩
  case round=>
    clear hc0 hg0 hf0 hz0
    obtain⟨k,was,s,out,hk,hol,rfl,HW,hO,hC,hG,hch,hz,HRk⟩:=hrel
    obtain⟨oa,oc,hov⟩:=hO.shape'
    rw [hol]at hov
    subst hov
    have HOl:=hid hol
    clear hol
    have c0:wr.cell? ⟨g,0,none⟩=some (.pointer (some ⟨B,0,none⟩)):=by rw [cell_of_heap hG];rfl
    have hBg:B≠g:=by omega
    by_cases hlt:k<n
    · have i1:(k:Int)<n:=by omega
      have HE1:=hid (HErr.out s.at_ s.er wr hC)
      have HS1:=hid (HSt.out k s was out hlt)
      by_cases he:s.er=0
      · rw [if_pos he]at HS1
        have HN1:=hid (HNum.out s wr hC)
        rw [he]at HE1
        have HO:=hid hO
        have HG:=hid hG
        have hb1:=hC.cbox
        clear hO hC hG he
        go_wp2_with fail
        refine(HE1.out).mono ?_
        rintro e w1 ⟨rfl,rfl⟩
        go_wp2_with fail
        refine(HN1.out).mono ?_
        rintro e w2 ⟨rfl,hC2,hc2⟩
        have HZ1:=hid (Zag_any (s.num b).1 (HLt.out s) w2)
        have hzl:=zagN_lt (s.num b).1 (HLt.out s)
        have hO2 := HO.out.chg hc2 (fun i hi e => by
          obtain ⟨cs, h5⟩ := hb1
          exact HO.out.ne_cells h5 (by decide) (by rw [hi, show i = B from e]))
        have hG2:=hc2.heap HG.out (fun e=>hBg e.symm)
        have hch2:=hch.trans hc2 fun _ _ h=>h
        have hz2:=Nat.le_trans hz hc2.size
        have hmod:IntKind.u64.wrap ((was:Int)+((zagN (s.num b).1:Nat):Int))=(((was+zagN (s.num b).1) % 18446744073709551616:Nat):Int):=by rw [IntKind.wrap_u64];omega
        have HM:=hid (Nat.mod_lt (was+zagN (s.num b).1) (show 0<18446744073709551616 by omega))
        have HS2:Hid (R=tmGo b (n - (k+1)) (s.num b).2 ((was+zagN (s.num b).1) % 18446744073709551616) (out++[(was+zagN (s.num b).1) % 18446744073709551616])):=HRk.out.trans HS1.out
        have HC1:Hid (out.length+[(was+zagN (s.num b).1) % 18446744073709551616].length<=2147483648):=by have:=HOl.out;show _<=_;simp;omega
        clear HN1 HE1 HO HG HRk HS1 hb1 hzl
        generalize (was+zagN (s.num b).1) % 18446744073709551616=was2 at *
        generalize zagN (s.num b).1=zz at *
        generalize (s.num b).1=x1 at *
        generalize (s.num b).2=s2 at *
        go_wp2_with fail
        refine(HZ1.out).mono ?_
        rintro e w3 ⟨rfl,rfl⟩
        clear HZ1
        go_wp2_with (at_builtin;refine wpList_app1 eQ rfl (.tmp 23) (.tmp 25) 32 rfl Tryz.underlying32 (g+1) rfl hO2 [was2] _ _ _ rfl rfl rfl HC1.out hz2 ?_)
        intro v4 w4 hap
        have hC4:=hC2.app hO2 hap (by decide) (by decide)
        have hG4:=hap.chg'.heap hG2 (fun e=>hO2.ne_cells hG2 (by decide) e)
        have hch4:Chg (fun i=>i=B) w w4:=hch2.trans hap.chg' fun i hi e=>by have:=(hO2.lt i e).1;omega
        have hz4:=Nat.le_trans hz2 hap.size
        have hOl:=HOl.out
        obtain⟨va,vc,hv4⟩:=hap.own.shape'
        rw [List.length_append,hOl]at hv4
        subst hv4
        go_wp2_with fail
        go_roundw
        case rel=>exact⟨k+1,was2,s2,out++[was2],by omega,by rw [List.length_append,hOl];rfl,rfl,HM.out,hap.own,hC4,hG4,hch4,hz4,HS2.out⟩
        case measure=>simp;omega
      · have HR2:Hid (R=(out,s)):=by show _=_;rw [HRk.out,HS1.out,if_neg he]
        have he':¬(s.er:Int)=0:=by omega
        clear HRk HS1
        go_wp2_with fail
        refine(HE1.out).mono ?_
        rintro e w1 ⟨rfl,rfl⟩
        go_wp2_with fail
        go_ret
        rw [HR2.out]
        exact⟨_,rfl,hO.rebase (by omega),hC,hch⟩
    · have HR2:Hid (R=(out,s)):=by show _=_;rw [HRk.out,show n - k=0 by omega];rfl
      have i1:¬(k:Int)<n:=by omega
      clear HRk
      go_wp2_with fail
      go_ret
      rw [HR2.out]
      exact⟨_,rfl,hO.rebase (by omega),hC,hch⟩
set_option maxRecDepth 512
def curOk(B:Nat)(wr:World):Nat:=match wr.heap[B]? with | some (.cells cs _ _)=>(if intOf (cs.getD 2 undef)=0 then 1 else 0) | _=>0
theorem curOk_at{w:World}{B base n er:Nat}{T:TypeId}{l:List UInt8}(h:CurF w T B base l n er):curOk B w=if er=0 then 1 else 0:=by
 obtain⟨⟨v,h1,_⟩,_⟩:=h
 unfold curOk;rw [h1]
 show(if intOf (.int .i64 (er:Int))=0 then 1 else 0)=_
 simp [intOf]
theorem lastD_at(l:List UInt8)(h:0<l.length):l.getLastD 0=l[l.length - 1]:=by
 rw [List.getLastD_eq_getLast?,List.getLast?_eq_getElem?,List.getElem?_eq_getElem (by omega)];rfl
theorem lvK_le(b:List UInt8)(n:Nat)(s:Cs)(out:List UInt8):(lvK b n s out).1<=n - out.length:=by
 show Cs.val _ _<=_
 unfold Cs.val
 split
 · rename_i h;exact(limL_ok _ _ h.2).2.2
 · exact Nat.zero_le _
theorem lvX_lt(b:List UInt8)(s:Cs):lvX b s<256:=by
  show(((s.take b 1).1).getD 0 0).toNat<256
  exact UInt8.toNat_lt _
set_option maxRecDepth 100000
theorem levels_any(B base n:Nat)(s0:Cs)(b:List UInt8)(w:World)(hc:CurF w 183 B base b s0.at_ s0.er)(hl:b.length<=1000000)(hn:n<=20000)(hbw:base<=w.heap.size) :
  Calls Tryz.prog 131 #[.agg #[.pointer (some ⟨B,0,none⟩)],N n] w fun e w'=>∃ u,e=.returned u/\Ow w' w.heap.size eB u (lvlGo b n n s0 []).1/\CurF w' 183 B base b (lvlGo b n n s0 []).2.at_ (lvlGo b n n s0 []).2.er/\Chg (fun k=>k=B) w w':=by
 have HByte:=hid (fun s W (h:CurF W 183 B base b s.at_ s.er) hW=>Byte_cur B base s b W h hl hW)
 have HInt:=hid (fun most (hm:most<9223372036854775808) s W (h:CurF W 183 B base b s.at_ s.er)=>Int_cur most hm B base s b W h hl)
 have HErr:=hid (fun n er W h=>CErr_any B base n er b W h)
 have HFail:=hid (fun s W (h:CurF W 183 B base b s.at_ s.er)=>Fail_cur 2 B base s b W h)
 obtain⟨R,hR⟩:∃ R,R=lvlGo b n n s0 []:=⟨_,rfl⟩
 rw [<- hR]
 have HR:=hid hR
 clear hR
 have hBw:=hc.lt
 have hg0:(w.alloc (.cells #[.pointer (some ⟨B,0,none⟩)] 190)).heap[w.heap.size]?=some (.cells #[.pointer (some ⟨B,0,none⟩)] 190 (0,0)):=heap_new _ _ _ rfl
 have hf0:Fr w (w.alloc (.cells #[.pointer (some ⟨B,0,none⟩)] 190)):=(Fr.refl w).alloc _
 have hz0:w.heap.size+1<=(w.alloc (.cells #[.pointer (some ⟨B,0,none⟩)] 190)).heap.size:=by simp
 have hc0:=hc.fr hf0
 clear hc
 go_enter Tryz.func131, Tryz.ntmps131
 go_wp2_with fail
 generalize w.alloc (.cells #[.pointer (some ⟨B,0,none⟩)] 190)=W0 at *
 generalize hg:w.heap.size=g at *
 go_loopw [5] (fun ov wr=>∃ (f:Nat) (s:Cs) (out:List UInt8),out.length<=n/\(s.er=0->n<=out.length+f)/\Ow wr (g+1) eB ov out/\CurF wr 183 B base b s.at_ s.er/\wr.heap[g]?=some (.cells #[.pointer (some ⟨B,0,none⟩)] 190 (0,0))/\Chg (fun k=>k=B) w wr/\g+1<=wr.heap.size/\Hid (R=lvlGo b n f s out)) (fun ov wr=>(n - (match ov with | .slice _ m _=>m | _=>0))*2+curOk B wr)
 case atStart=>exact⟨n,s0,[],Nat.zero_le _,fun _=>by simp,Ow.nil,hc0,hg0,hf0.chg _,hz0,HR.out⟩
 case round=>
  clear hc0 hg0 hf0 hz0 HR
  obtain⟨f,s,out,hol,hfu,hO,hC,hG,hch,hz,HR⟩:=hrel
  obtain⟨oa,oc,hov⟩:=hO.shape'
  subst hov
  have c0:wr.cell? ⟨g,0,none⟩=some (.pointer (some ⟨B,0,none⟩)):=by rw [cell_of_heap hG];rfl
  have hBg:B≠g:=by omega
  have hbr:base<=wr.heap.size:=by have:=hch.size;omega
  by_cases hlt:out.length<n
  · have i1:(out.length:Int)<n:=by omega
    have HE1:=hid (HErr.out s.at_ s.er wr hC)
    by_cases he:s.er=0
    · obtain⟨f2,rfl⟩:∃ f2,f=f2+1:=⟨f - 1,by have:=hfu he;omega⟩
      have HR2:Hid (R=lvlGo b n f2 (lvC b n s out) (out++List.replicate (lvK b n s out).1 (UInt8.ofNat (lvX b s)))):=by
       show _=_;rw [HR.out,lvlGo,if_pos ⟨hlt,he⟩]
      have HB1:=hid (HByte.out s wr hC hbr)
      have hme:curOk B wr=1:=by rw [curOk_at hC,if_pos he]
      rw [he]at HE1
      have hkl:=lvK_le b n s out
      have hxl:=lvX_lt b s
      have HX:Hid (lvX b s=(s.byte b).1):=rfl
      have HKe:Hid (lvK b n s out=(s.byte b).2.int b (n - out.length)):=rfl
      have HLc:Hid (lvC b n s out=if(lvK b n s out).2.er=0/\((lvK b n s out).1=0\/(0<out.length/\(out.getLastD 0).toNat=lvX b s))then⟨(lvK b n s out).2.at_,2⟩else(lvK b n s out).2):=rfl
      have HIn:=hid (fun W h=>HInt.out (n - out.length) (by omega) (s.byte b).2 W h)
      have hsub:IntKind.i64.wrap ((n:Int) - out.length)=((n - out.length:Nat):Int):=by rw [IntWalk.i64_in _ (by omega)];omega
      have HFa:=hid (fun W h=>HFail.out (lvK b n s out).2 W h)
      have HFe:Hid ((lvK b n s out).2.er=0->(lvK b n s out).2.fail 2=⟨(lvK b n s out).2.at_,2⟩):=fun h=>by unfold Cs.fail;rw [if_pos h]
      rw [<- HX.out]at HB1
      rw [<- HKe.out]at HIn
      have hfu2:=hfu he
      have HO:=hid hO
      have HG:=hid hG
      have hb1:=hC.cbox
      clear hO hC hG he HR hfu HX HKe
      generalize lvC b n s out=s3 at *
      generalize (lvK b n s out).1=k at *
      generalize (lvK b n s out).2=s2 at *
      generalize lvX b s=x at *
      generalize (s.byte b).2=s1 at *
      go_wp2_with fail
      refine(HE1.out).mono ?_
      rintro e w1 ⟨rfl,rfl⟩
      go_wp2_with fail
      refine(HB1.out).mono ?_
      rintro e w2 ⟨rfl,hC2,hc2⟩
      have HI2:=hid (HIn.out w2 hC2)
      have hG2:=hc2.heap HG.out (fun e=>hBg e.symm)
      have c2:w2.cell? ⟨g,0,none⟩=some (.pointer (some ⟨B,0,none⟩)):=by rw [cell_of_heap hG2];rfl
      clear HB1 HE1 HIn
      go_wp2_with fail
      refine(HI2.out).mono ?_
      rintro e w3 ⟨rfl,hC3,hc3⟩
      have hc23:=hc2.trans hc3 fun _ _ h=>h
      have hO3:=HO.out.chg hc23 (fun i hi e=>by have:=(HO.out.lt i hi).1;have e:i=B:=e;omega)
      have hG3:=hc3.heap hG2 (fun e=>hBg e.symm)
      have c3:w3.cell? ⟨g,0,none⟩=some (.pointer (some ⟨B,0,none⟩)):=by rw [cell_of_heap hG3];rfl
      have hch3:=hch.trans hc23 fun _ _ h=>h
      have hz3:=Nat.le_trans hz hc23.size
      have HE3:=hid (HErr.out s2.at_ s2.er w3 hC3)
      have HF3:=hid (HFa.out w3 hC3)
      clear HI2 c2 hG2 hc23 hc2 hc3 HFa HO HG c0
      obtain⟨bad,hbad⟩:∃ bad:Bool,bad=decide (s2.er=0/\(k=0\/(0<out.length/\(out.getLastD 0).toNat=x))):=⟨_,rfl⟩
      have HLc2:Hid (s3=if bad=true then⟨s2.at_,2⟩else s2):=by show _=_;rw [HLc.out,hbad];simp only [decide_eq_true_eq]
      have HK1:Hid (k=0->s2.er=0->bad=true):=fun h1 h2=>by rw [hbad];exact decide_eq_true ⟨h2,.inl h1⟩
      have HBe:Hid (bad=true->s2.er=0):=fun h=>by rw [hbad]at h;exact(of_decide_eq_true h).1
      have HBad:=hid hbad
      clear hbad HLc
      go_upto_region 5 with fail
      go_cut [50]from 28 to 50 (fun cv wx=>cv=.bool bad/\w3=wx)
      case first=>
       by_cases hs2:s2.er=0
       · rw [hs2]at HE3
         by_cases hk0:k=0
         · have h3:Hid (bad=true):=by show _=_;rw [HBad.out];exact decide_eq_true ⟨hs2,.inl hk0⟩
           subst hk0
           clear hs2
           go_wp2_with fail
           refine(HE3.out).mono ?_
           rintro e w4 ⟨rfl,rfl⟩
           go_wp2_with fail
           go_meet
           exact⟨by rw [h3.out],rfl⟩
         · have hk1:¬(k:Int)=0:=by omega
           have hk2:((k:Int) == 0)=false:=by rw [beq_eq_false_iff_ne];exact hk1
           by_cases hl0:0<out.length
           · obtain⟨b5,o5,p5,hv5,e5⟩:=hO3.see.cell1 Fk.u8 rfl (out.length - 1) (by omega)
             have hlast:=lastD_at out hl0
             cases hv5
             have e6:w3.cell? ⟨b5,o5+(out.length - 1),none⟩=some (.int .u8 (out[out.length - 1].toNat:Int)):=e5
             rw [<- hlast]at e6
             have l0:(0:Int)<out.length:=by omega
             have l1:IntKind.i64.wrap ((out.length:Int) - 1)=(out.length:Int) - 1:=IntWalk.i64_in _ (by omega)
             have l2:(0:Int)<=(out.length:Int) - 1:=by omega
             have l3:((out.length:Int) - 1).toNat=out.length - 1:=by omega
             have l4:(out.length:Int) - 1<out.length:=by omega
             have h3:Hid (bad=decide ((out.getLastD 0).toNat=x)):=by show _=_;rw [HBad.out];simp [hs2,hk0,hl0]
             clear e5 hlast HBad
             generalize (out.getLastD 0).toNat=z at *
             have hzx:((z:Int) == x)=decide (z=x):=by rw [Bool.eq_iff_iff];simp;omega
             have HZX:=hid hzx
             clear hzx
             clear hs2 hl0
             go_wp2_with fail
             refine(HE3.out).mono ?_
             rintro e w4 ⟨rfl,rfl⟩
             go_wp2_with fail
             go_meet
             exact⟨by rw [h3.out,<- HZX.out],rfl⟩
           · have h3:Hid (bad=false):=by show _=_;rw [HBad.out];exact decide_eq_false (fun h=>h.2.elim hk0 fun h=>hl0 h.1)
             have l0:¬(0:Int)<out.length:=by omega
             clear hs2 hl0
             go_wp2_with fail
             refine(HE3.out).mono ?_
             rintro e w4 ⟨rfl,rfl⟩
             go_wp2_with fail
             go_meet
             exact⟨by rw [h3.out],rfl⟩
       · have h3:Hid (bad=false):=by show _=_;rw [HBad.out];exact decide_eq_false (fun h=>hs2 h.1)
         have he':¬(s2.er:Int)=0:=by omega
         clear hs2
         go_wp2_with fail
         refine(HE3.out).mono ?_
         rintro e w4 ⟨rfl,rfl⟩
         go_wp2_with fail
         go_meet
         exact⟨by rw [h3.out],rfl⟩
      case rest=>
       obtain⟨rfl,rfl⟩:=hcut
       clear HE3 HBad
       go_upto_if 50 with fail
       go_cut []from 51 to 54 (fun wx=>CurF wx 183 B base b s3.at_ s3.er/\Ow wx (g+1) eB (.slice oa out.length oc) out/\wx.heap[g]?=some (.cells #[.pointer (some ⟨B,0,none⟩)] 190 (0,0))/\Chg (fun k=>k=B) w wx/\g+1<=wx.heap.size/\Hid (k=0->s3.er=0->False))
       case first=>
        cases bad
        · have h3:Hid (s3=s2):=by show _=_;rw [HLc2.out];rfl
          go_wp2_with fail
          go_meet
          rw [h3.out]
          exact⟨hC3,hO3,hG3,hch3,hz3,fun h0 h1=>by have:=HK1.out h0 h1;cases this⟩
        · have h3:Hid (s3=⟨s2.at_,2⟩):=by show _=_;rw [HLc2.out];rfl
          have hFf:=HFe.out (HBe.out rfl)
          rw [hFf,<- h3.out]at HF3
          clear hFf
          go_wp2_with fail
          refine(HF3.out).mono ?_
          rintro e w4 ⟨rfl,hC4,hc4⟩
          go_wp2_with fail
          go_meet
          exact⟨hC4,hO3.chg hc4 (fun i hi e=>by have:=(hO3.lt i hi).1;have e:i=B:=e;omega),hc4.heap hG3 (fun e=>hBg e.symm),hch3.trans hc4 fun _ _ h=>h,Nat.le_trans hz3 hc4.size,fun _ h=>by rw [h3.out]at h;cases h⟩
       case rest=>
        obtain⟨hC4,hO4,hG4,hch4,hz4,HK0⟩:=hcut
        clear hC3 hO3 hG3 hch3 hz3 HF3 HFe HBe HLc2 c3
        have hxu:(UInt8.ofNat x).toNat=x:=by rw [UInt8.toNat_ofNat'];omega
        have hsx:See (wc.alloc (.cells #[.int .u8 (x:Int)] 5)) eB (.slice (some ⟨wc.heap.size,0,none⟩) 1 1) [UInt8.ofNat x]:=see_new eB wc [UInt8.ofNat x] _ _ 1 rfl (byte_cell x (by omega)) (by simp [maxLen])
        have HRp:=hid (Repeat_any (UInt8.ofNat x) k (by omega) _ _ hsx)
        have hfa:Fr wc (wc.alloc (.cells #[.int .u8 (x:Int)] 5)):=(Fr.refl wc).alloc _
        clear hsx hxu
        generalize UInt8.ofNat x=xb at *
        go_wp2_with fail
        generalize hW5:wc.alloc (.cells #[.int .u8 (x:Int)] 5)=W5 at *
        refine(HRp.out).mono ?_
        rintro e w6 ⟨v6,rfl,hO6,hf6⟩
        have hff:=hfa.trans hf6
        have hO7:=hO4.fr hff
        have hC7:=hC4.fr hff
        have hG7:=hff.heap hG4
        have hz7:=Nat.le_trans hz4 hff.size
        have hch7:Chg (fun k=>k=B) w w6:=hch4.trans (hff.chg _) fun _ _ h=>h
        have HL1:Hid (out.length+(List.replicate k xb).length<=2147483648):=by show _<=_;rw [List.length_replicate];omega
        have HO6:=hid hO6
        clear hO4 hC4 hG4 hch4 hz4 HRp hW5 hO6
        go_wp2_with (at_builtin;refine wpList_app eB rfl (.tmp 54) (.tmp 58) 22 rfl Tryz.underlying22 (g+1) rfl hO7 _ _ rfl HO6.out.see HL1.out hz7 ?_)
        intro v8 w8 hap
        have hC8:=hC7.behind hO7 hap (by omega)
        have hG8:=hap.chg'.heap hG7 (fun e=>hO7.ne_cells hG7 (by decide) e)
        have hch8:Chg (fun i=>i=B) w w8:=hch7.trans hap.chg' fun i hi e=>by have:=(hO7.lt i e).1;omega
        have hz8:=Nat.le_trans hz7 hap.size
        obtain⟨va,vc,hv8⟩:=hap.own.shape'
        rw [List.length_append,List.length_replicate]at hv8
        subst hv8
        have hmm:=curOk_at hC8
        go_wp2_with fail
        go_roundw
        case rel => exact ⟨f2, s3, out ++ List.replicate k xb, by rw [List.length_append, List.length_replicate]; omega, fun h => by
         have := HK0.out
         rw [List.length_append, List.length_replicate]
         rcases Nat.eq_zero_or_pos k with h0 | h0
         · exact absurd h (fun h => this h0 h)
         · omega, hap.own, hC8, hG8, hch8, hz8, HR2.out⟩
        case measure=>
         rw [hmm,hme]
         show(n - (out.length+k))*2+_<(n - out.length)*2+1
         rcases Nat.eq_zero_or_pos k with h0 | h0
         · rw [if_neg (fun h=>HK0.out h0 h)];omega
         · split <;> omega
    · have HR2:Hid (R=(out,s)):=by
        show _=_;rw [HR.out]
        cases f with
        | zero=>rfl
        | succ f=>rw [lvlGo,if_neg (fun h=>he h.2)]
      have he':¬(s.er:Int)=0:=by omega
      clear HR
      go_wp2_with fail
      refine(HE1.out).mono ?_
      rintro e w1 ⟨rfl,rfl⟩
      go_wp2_with fail
      go_ret
      rw [HR2.out]
      exact⟨_,rfl,hO.rebase (by omega),hC,hch⟩
  · have HR2:Hid (R=(out,s)):=by
      show _=_;rw [HR.out]
      cases f with
      | zero=>rfl
      | succ f=>rw [lvlGo,if_neg (fun h=>hlt h.1)]
    have i1:¬(out.length:Int)<n:=by omega
    clear HR
    go_wp2_with fail
    go_ret
    rw [HR2.out]
    exact⟨_,rfl,hO.rebase (by omega),hC,hch⟩
set_option maxRecDepth 512
set_option maxRecDepth 100000
theorem Rwidth_any(q:Nat)(h0:1<=q)(hq:q<=20000)(w:World) :
  Calls Tryz.prog 150 #[N q] w fun e w'=>e=.returned (.tuple #[N (Nat.log2 q),N (2 ^ Nat.log2 q)])/\w=w':=by
 go_enter Tryz.func150, Tryz.ntmps150
 go_wp2_with fail
 go_loopw [4,5] (fun wv pv wr=>∃ k p:Nat,wv=N k/\pv=N p/\p<=q/\k<=20000/\Hid (p=2 ^ k)/\k<p/\w=wr) (fun _ pv _=>q - (intOf pv).toNat)
 case atStart=>exact⟨0,1,rfl,rfl,h0,by omega,by first | rfl | trivial,by omega,by first | rfl | trivial⟩
 case round=>
  obtain⟨k,p,rfl,rfl,hp,hk,HP,hkp,rfl⟩:=hrel
  by_cases hlt:2*p<=q
  · have hlt':(2:Int)*p<=q:=by omega
    have HP2:Hid (2*p=2 ^ (k+1)):=by show _=_;rw [HP.out,Nat.pow_succ];omega
    go_wp2_with fail
    exact⟨⟨k+1,2*p,by go_num,by go_num,hlt,by omega,HP2.out,by omega,by first | rfl | trivial⟩,by simp [intOf];omega⟩
  · have hlt':decide ((2:Int)*p<=q)=false:=by simp;omega
    have hlt2:decide (2*p<=q)=false:=by simp;omega
    have HL:Hid (Nat.log2 q=k):=log2_le q k (by rw [<- HP.out];exact hp) (by rw [Nat.pow_succ,<- HP.out];omega)
    go_wp2_with fail
    go_ret2
    rw [HL.out,<- HP.out]
    exact⟨rfl,rfl⟩
set_option maxRecDepth 512
def eU:Elt Tryz.prog Nat:=⟨240,1,2,0,.int .u16 0,fun n=>[.int .u16 (n:Int)],by kernel_rfl,by decide,by decide,by simp [Value.cells],fun _=>rfl,by intro x u hu;simp at hu;subst hu;rfl⟩
structure PartsT (w:World) (T:TypeId) (base g n:Nat) (hv lv:Value) (hs ls:List Nat):Prop where
 at0:w.heap[g]?=some (.cells #[N n,hv,lv] T (0,0))
 hi:Ow w base eJ hv hs
 lo:Ow w base eU lv ls
 lt:g<base
abbrev PartsAt(w:World)(base g n:Nat)(hv lv:Value)(hs ls:List Nat):Prop:=PartsT w 234 base g n hv lv hs ls
set_option maxRecDepth 100000
theorem padd_any (x n : Nat) (hx : x ≤ 20000) (hn : n ≤ 14) {T : TypeId} (base g : Nat) (hv lv : Value) (hs ls : List Nat) (w : World) (h : PartsT w T base g n hv lv hs ls) (hl : hs.length ≤ 20000) (hl2 : ls.length ≤ 20000) (hsz : base ≤ w.heap.size) :
    Calls Tryz.prog 163 #[.pointer (some ⟨g,0,none⟩),N x] w fun e w'=>e=.returned (.tuple #[])/\∃ hv' lv',PartsT w' T base g n hv' lv' (hs++[x / 2 ^ n]) (ls++[x % 2 ^ n])/\Chg (fun k=>k=g\/hv.ownBlock=some k\/lv.ownBlock=some k) w w':=by
  obtain⟨h0,hhi,hlo,hgb⟩:=h
  have hne:=own_ne hhi hlo (by decide)
  have e0:w.cell? ⟨g,0,none⟩=some (N n):=by rw [cell_of_heap h0];rfl
  have e1:w.cell? ⟨g,1,none⟩=some hv:=by rw [cell_of_heap h0];rfl
  have e2:w.cell? ⟨g,2,none⟩=some lv:=by rw [cell_of_heap h0];rfl
  have hdn:(x:Int) / 2 ^ n=((x / 2 ^ n:Nat):Int):=by simp
  have hyx:x / 2 ^ n<=x:=Nat.div_le_self _ _
  have HC1:Hid (hs.length+[x / 2 ^ n].length<=2147483648):=by show _<=_;simp;omega
  have HM:Hid (x % 2 ^ n=x % 2 ^ n):=rfl
  generalize hz:x % 2 ^ n=z at *
  have HZ:=hid hz
  clear hz
  generalize hy:x / 2 ^ n=y at *
  have HY:=hid hy
  clear hy
  have hn0:(0:Int)<=n:=by omega
  have hn1:¬(n:Int)<0:=by omega
  have HSZ:Hid (base<=w.drew.heap.size):=hsz
  have hD:=hhi.drew
  have hfa:Fr w (w.alloc (.cells #[.int .i64 (y:Int)] 3)):=(Fr.refl w).alloc _
  have e0a:=hfa.cell e0
  have e1a:=hfa.cell e1
  clear hfa
  have hnn:∀ k,hv.ownBlock=some k->base<=k:=fun k hk=>(hhi.lt k hk).1
  clear hhi
  go_enter Tryz.func163, Tryz.ntmps163
  go_upto_region 0 with fail
  go_cut []from 4 to 18 (fun wx=>∃ hv',wx.heap[g]?=some (.cells #[N n,hv',lv] T (0,0))/\Ow wx base eJ hv' (hs++[y])/\Chg (fun k=>k=g\/hv.ownBlock=some k) w wx/\(∀ b,hv'.ownBlock=some b->hv.ownBlock=some b\/w.heap.size<=b))
  case first=>
    go_region_law (refine step_app1d eJ rfl (.tmp 8) (.tmp 15) 30 rfl Tryz.underlying30 base rfl hD [y] _ _ _ rfl rfl rfl HC1.out HSZ.out ?_
                   intro v' w4 hap
                   have own4 := hap.own
                   have HA4 := hid hap.chg'
                   have HS4 := hid hap.size
                   have HN4 := hid hap.fresh
                   obtain ⟨va, vc, hv'⟩ := own4.shape'
                   have k0 := hap.chg'.heap (show w.drew.heap[g]? = _ from h0) (fun e => by have := hnn g e; omega)
                   have e3 : w4.cell? ⟨g, 1, none⟩ = some hv := by rw [cell_of_heap k0]; rfl
                   have e4 : w4.frozen? ⟨g, 1, none⟩ = false := frozen_of_heap k0 1
                   clear hap
                   subst hv')
    all_goals go_wp2_with fail
    all_goals go_meet
    all_goals refine⟨.slice va (hs.length+1) vc,?_,own_set_other (by simpa using own4) hgb,(HA4.out.mono (fun k _ h=>Or.inr h)).trans (setCell_chg w4 ⟨g,1,none⟩ _) (fun k _ h=>Or.inl h),fun b hb=>HN4.out b (by simpa using hb)⟩
    all_goals(have hk:=heap_setCell_own k0 1 (.slice va (hs.length+1) vc);simpa using hk)
  case rest=>
    obtain⟨hv1,h1,hhi1,hc1,hf1⟩:=hcut
    have hlo1:Ow wc base eU lv ls:=hlo.chg hc1 fun q hq e=>by
      rcases e with e | e
      · have:=(hlo.lt q hq).1;omega
      · rcases hne with h | h
        · rw [h]at e;cases e
        · exact h (e.trans hq.symm)
    have c0:wc.cell? ⟨g,0,none⟩=some (N n):=by rw [cell_of_heap h1];rfl
    have c2:wc.cell? ⟨g,2,none⟩=some lv:=by rw [cell_of_heap h1];rfl
    clear e0 e1 e2 e0a e1a hlo
    have HC2:Hid (ls.length+[z].length<=2147483648):=by show _<=_;simp;omega
    have HSZ2:Hid (base<=wc.drew.heap.size):=Nat.le_trans hsz hc1.size
    have hD2:=hlo1.drew
    have hp:(2:Nat) ^ n<=16384:=Nat.pow_le_pow_right (by omega) hn
    have hp1:=Nat.two_pow_pos n
    have hpi:(2:Int) ^ n=((2 ^ n:Nat):Int):=by simp
    have w1:IntKind.i64.wrap ((2:Int) ^ n)=((2 ^ n:Nat):Int):=by rw [hpi];exact IntWalk.i64_in _ (by omega)
    have w2:IntKind.i64.wrap (((2 ^ n:Nat):Int) - 1)=((2 ^ n - 1:Nat):Int):=by rw [IntWalk.i64_in _ (by omega)];omega
    have w3:bits .and .i64 (x:Int) ((2 ^ n - 1:Nat):Int)=(z:Int):=by
      rw [and_i64 _ _ (by omega) (by omega),Nat.and_two_pow_sub_one_eq_mod,HZ.out]
    have w4:IntKind.u16.wrap (z:Int)=(z:Int):=by
      have hz:z<2 ^ n:=by rw [<- HZ.out];exact Nat.mod_lt _ hp1
      simp only [IntKind.wrap,IntKind.bits,IntKind.signed]
      simp
      omega
    have hfa:Fr wc (wc.alloc (.cells #[.int .u16 (z:Int)] 240)):=(Fr.refl wc).alloc _
    have c0a:=hfa.cell c0
    have c2a:=hfa.cell c2
    clear hfa
    have HPI:=hid hpi
    clear hpi hp
    generalize 2 ^ n - 1=pm at *
    generalize hpn:2 ^ n=pn at *
    have HPN:=hid hpn
    clear hpn
    have hll:∀ k,lv.ownBlock=some k->base<=k:=fun k hk=>(hlo1.lt k hk).1
    have HLO:=hid hlo1
    have HHI:=hid hhi1
    clear hlo1 hhi1
    go_upto_region 1 with fail

    go_region_law (refine step_app1d eU rfl (.tmp 23) (.tmp 33) 232 rfl Tryz.underlying232 base rfl hD2 [z] _ _ _ rfl rfl rfl HC2.out HSZ2.out ?_
                   intro v' w4 hap
                   have own4 := hap.own
                   have HA4 := hid hap.chg'
                   have HI4 := hid (own_app HHI.out HLO.out hap (by decide))
                   obtain ⟨va, vc, hv'⟩ := own4.shape'
                   have k0 := hap.chg'.heap (show wc.drew.heap[g]? = _ from h1) (fun e => by have := hll g e; omega)
                   have e3 : w4.cell? ⟨g, 2, none⟩ = some lv := by rw [cell_of_heap k0]; rfl
                   have e4 : w4.frozen? ⟨g, 2, none⟩ = false := frozen_of_heap k0 2
                   clear hap
                   subst hv')
    all_goals go_wp2_with fail
    all_goals go_end0
    all_goals refine⟨rfl,⟨hv1,.slice va (ls.length+1) vc,⟨?_,?_,?_,hgb⟩⟩,(hc1.mono (fun k _ h=>?_)).trans ((HA4.out.mono (G':=fun k=>k=g\/lv.ownBlock=some k) (fun k _ h=>.inr h)).trans (setCell_chg w4 ⟨g,2,none⟩ _) (fun k _ h=>.inl h)) (fun k _ h=>?_)⟩
    all_goals first
      | (have hk:=heap_setCell_own k0 2 (.slice va (ls.length+1) vc);simpa using hk)
      | exact own_set_other HI4.out hgb
      | (exact own_set_other (by simpa using own4) hgb)
      | exact Or.elim h (fun h=>.inl h) (fun h=>.inr (.inl h))
      | exact Or.elim h (fun h=>.inl h) (fun h=>.inr (.inr h))
set_option maxRecDepth 512
def lowR(l:List UInt8)(k:Nat)(n:Nat):List Nat:=(List.range n).map fun i=>Fk.numAt l (k*i) k
theorem lowR_len(l:List UInt8)(k n:Nat):(lowR l k n).length=n:=by simp [lowR]
theorem lowR_at(l:List UInt8)(k n i:Nat)(h:i<(lowR l k n).length):(lowR l k n)[i]=Fk.numAt l (k*i) k:=by simp [lowR]
set_option maxRecDepth 100000
theorem lows_any(B base n m k:Nat)(l:List UInt8)(w:World)(hc:BrF w B base l n 0)(hl:l.length<=1000000)(hk:k<=14)(hm:m<=20000)(hb:base<=w.heap.size)(hB:B<w.heap.size) :
  Calls Tryz.prog 229 #[.pointer (some ⟨B,0,none⟩),N m,N k] w fun e w'=>∃ u,e=.returned (.tuple #[u,.int .i64 ((if n<m*k then 1 else 0:Nat):Int)])/\(n<m*k->Qt w w')/\(m*k<=n->Ow w' w.heap.size eU u (lowR l k m)/\BrF w' B base l n (m*k)/\Chg (fun b=>b=B) w w'):=by
 have HL:=hid (BLeft_any B base n 0 l w hc hl)
 have hn8:n<=8000000:=by have:=hc.eq;omega
 have hmk:m*k<=20000*14:=Nat.mul_le_mul hm hk
 have hw1:IntKind.i64.wrap ((m:Int)*k)=((m*k:Nat):Int):=by rw [IntWalk.i64_in _ (by rw [<- Int.natCast_mul];omega)];simp
 by_cases h:n<m*k
 · rw [if_pos h]
   have k3:(n:Int)<((m*k:Nat):Int):=by omega
   have HH:=hid h
   clear hc h hmk
   generalize m*k=mk at *
   go_enter Tryz.func229, Tryz.ntmps229
   go_wp2_with fail
   refine(HL.out).mono ?_
   rintro e w1 ⟨rfl,hq⟩
   go_wp2_with fail
   go_ret2
   exact⟨_,rfl,fun _=>hq,fun h=>absurd h (by have:=HH.out;omega)⟩
 · rw [if_neg h]
   have k3:¬(n:Int)<((m*k:Nat):Int):=by omega
   have HG:=hid (fun i (hi:i<m) W (hW:BrF W B base l n (i*k))=>Get_any B base n (i*k) k l W hW hl (by omega))
   have HGn:Hid (∀ i,i<m->¬n<i*k+k):=fun i hi=>by
    have h1:(i+1)*k<=m*k:=Nat.mul_le_mul_right _ (by omega)
    rw [Nat.succ_mul]at h1;omega
   have HSk:Hid (∀ i,i*k+k=(i+1)*k):=fun i=>(Nat.succ_mul i k).symm
   have HLt:Hid (∀ i,Fk.numAt l (i*k) k<65536):=fun i=>by
    have h1:=numAt_lt l (i*k) k
    have h2:(2:Nat) ^ k<=2 ^ 14:=Nat.pow_le_pow_right (by omega) hk
    omega
   have HRl:=hid (lowR_len l k m)
   have HRa:Hid (∀ i (h:i<(lowR l k m).length),(lowR l k m)[i]=Fk.numAt l (i*k) k):=fun i h=>by rw [lowR_at,Nat.mul_comm]
   have hmk2:=made_run eU rfl rfl 232 Tryz.underlying232 .i64 .i64 m (by omega)
   have HH:=hid h
   have HC:=hid hc
   clear hc h hmk
   generalize lowR l k m=R at *
   generalize hM:m*k=mk at *
   have HM:=hid hM
   clear hM
   have hd:decide (n<mk)=false:=decide_eq_false HH.out
   go_enter Tryz.func229, Tryz.ntmps229
   go_wp2_with fail
   refine(HL.out).mono ?_
   rintro e w1 ⟨rfl,hq⟩
   have hC1:=HC.out.fr hq.fr
   have HOw:=hid (made_own (base:=w1.heap.size) eU rfl rfl m (by omega) w1 (Nat.le_refl _))
   have hFx:Fr w1 (w1.alloc (.cells (madeCells #[eU.z] m) eU.e)):=(Fr.refl w1).alloc _
   have hC2:=hC1.fr hFx
   have hsz1:=hq.fr.size
   rw [show(eU:Elt Tryz.prog Nat).e=240 from rfl]at *
   generalize madeCells #[eU.z] m=T0 at *
   have hz2:w1.heap.size<(w1.alloc (.cells T0 240)).heap.size:=by simp
   go_wp2_with fail
   generalize w1.alloc (.cells T0 240)=w2 at *
   have hfw:=hq.fr.trans hFx
   generalize hq0:w1.heap.size=q at *
   have hO0:=HOw.out
   clear HOw hmk2 hFx hC1 HC HL hq0
   go_loopw [22] (fun iv wr=>∃ i:Nat,i<=m/\iv=N i/\Ow wr q eU (.slice (some ⟨q,0,none⟩) m m) (R.take i++List.replicate (m - i) 0)/\BrF wr B base l n (i*k)/\Chg (fun b=>b=B) w wr/\q<wr.heap.size) (fun iv _=>m - (intOf iv).toNat)
   case atStart=>exact⟨0,Nat.zero_le _,rfl,by simp only [List.take_zero,List.nil_append,Nat.sub_zero];exact hO0,by rw [Nat.zero_mul];exact hC2,hfw.chg _,hz2⟩
   case round=>
    clear hO0 hC2 hfw hz2
    obtain⟨i,hi,rfl,hO,hC,hch,hz⟩:=hrel
    have hRl:R.length=m:=HRl.out
    by_cases hlt:i<m
    · have HG1:=hid (HG.out i hlt wr hC)
      rw [if_neg (HGn.out i hlt),if_neg (HGn.out i hlt),if_neg (HGn.out i hlt),HSk.out]at HG1
      have HX:=hid (HRa.out i (by omega))
      have hx:=HLt.out i
      have hll:=fill_len R (0:Nat) m i hRl hi
      have hBc:∃ cs,wr.heap[B]?=some (.cells cs 355 (0,0)):=by obtain⟨⟨v,h1,_⟩,_⟩:=hC;exact⟨_,h1⟩
      obtain⟨bcs,hBc⟩:=hBc
      have hqB:q≠B:=fun e=>hO.ne_cells hBc (by decide) (by rw [e];rfl)
      generalize Fk.numAt l (i*k) k=x at *
      have w16:IntKind.u16.wrap (x:Int)=(x:Int):=by simp [IntKind.wrap,IntKind.bits,IntKind.signed];omega
      have i1:(0:Int)<=i:=by omega
      have i2:(i:Int)<m:=by omega
      have HO:=hid hO
      clear hO hC
      go_wp2_with fail
      refine(HG1.out).mono ?_
      rintro e w3 ⟨rfl,hC3,hc3⟩
      have hO3:=HO.out.chg hc3 (fun b hb e=>hqB (by simp [Value.ownBlock]at hb;omega))
      obtain⟨k0,k1⟩:=hO3.cellAt (fun n:Nat=>Value.int .u16 (n:Int)) rfl i (by rw [hll];exact hlt)
      have hset:=hO3.set (fun n:Nat=>Value.int .u16 (n:Int)) rfl i (by rw [hll];exact hlt) x (.int .u16 (x:Int)) rfl
      rw [fill_set R 0 m i hRl hlt _ HX.out]at hset
      have hst:=setCell_chg w3 ⟨q,i,none⟩ (.int .u16 (x:Int))
      have hC4:BrF (w3.setCell ⟨q,i,none⟩ (.int .u16 (x:Int))) B base l n ((i+1)*k):=by
       obtain⟨⟨v,g1,g2⟩,g3,g4⟩:=hC3
       have hBx:=hst.heap g1 (fun e=>hqB e.symm)
       have hvq:v.ownBlock≠some q:=fun e=>by
        rcases own_ne g2 hO3 (by decide)with h | h
        · rw [h]at e;cases e
        · exact h e
       exact⟨⟨v,hBx,g2.chg hst (fun b hb e=>hvq (by rw [hb,show b=q from e]))⟩,g3,g4⟩
      have hch4:Chg (fun b=>b=B) w (w3.setCell ⟨q,i,none⟩ (.int .u16 (x:Int))):=(hch.trans hc3 fun _ _ h=>h).trans (G':=fun b=>b=q) hst fun b hb e=>by have e:b=q:=e;omega
      have hz4:q<(w3.setCell ⟨q,i,none⟩ (.int .u16 (x:Int))).heap.size:=by simp [World.setCell];have:=hc3.size;omega
      clear hO3 hst hc3 hBc HG1
      go_wp2_with fail
      go_roundw
      case rel=>exact⟨i+1,by omega,by go_num,hset,hC4,hch4,hz4⟩
      case measure=>simp [intOf];omega
    · obtain rfl:i=m:=by omega
      have hnl:¬((i:Int)<i):=by omega
      have hOf:Ow wr w.heap.size eU (.slice (some ⟨q,0,none⟩) i i) R:=by
       have h1:=hO.rebase hsz1
       rw [Nat.sub_self,List.replicate_zero,List.append_nil,List.take_of_length_le (by omega)]at h1
       exact h1
      rw [HM.out]at hC
      clear hO
      go_wp2_with fail
      go_ret2
      refine⟨.slice (some ⟨q,0,none⟩) i i,rfl,?_⟩
      exact⟨fun h=>absurd h HH.out,fun _=>⟨hOf,hC,hch⟩⟩
set_option maxRecDepth 512
def oneB(whole:Bool)(r:Rec):List UInt8:=(if whole then numB r.time.toNat++[r.level]else [])++(textB r.source++textB r.text)
theorem results_tmp4{fn:Func}{t u v x:Tmp}(h:fn.results=#[.tmp t,.tmp u,.tmp v,.tmp x])(tmps:Array Value)(P:Program)(w:World) :
  (results fn tmps).run P w=.ok (.tuple #[tmps.getD t undef,tmps.getD u undef,tmps.getD v undef,tmps.getD x undef]) w:=by
 simp [results,h]
theorem lvlGo_nil(b:List UInt8)(n f:Nat)(s:Cs)(out:List UInt8)(h:¬s.er=0):lvlGo b n f s out=(out,s):=by
 cases f with
 | zero=>rfl
 | succ f=>rw [lvlGo,if_neg (fun e=>h e.2)]
set_option maxRecDepth 100000
theorem RdCols_any (n : Nat) (hn : n ≤ 20000) (v : Value) (b : List UInt8) (w : World) (hs : See w eB v b) (hl : b.length ≤ 1000000) :
    Calls Tryz.prog 82 #[N n,v] w fun e w'=>∃ u t,e=.returned (.tuple #[u,t,N (colR n b).2.2.1,.int .i64 ((colR n b).2.2.2:Int)])/\Ow w' w.heap.size eQ u (colR n b).1/\Ow w' w.heap.size eB t (colR n b).2.1/\Fr w w':=by
  have HNew:=hid (New_any v b w hs hl)
  have HTm:=hid (fun B base W (h:CurF W 183 B base b 0 0)=>rtimes_any B base n ⟨0,0⟩ b W h hl hn)
  have HLv:=hid (fun B base s W (h:CurF W 183 B base b s.at_ s.er) hb=>levels_any B base n s b W h hl hn hb)
  have HErr:=hid (fun B base n er W h=>CErr_any B base n er b W h)
  have HAt:=hid (fun B base n er W h=>At_cur B base n er b W h)
  have HR:Hid (colR n b=if(lvlGo b n n (tmGo b n ⟨0,0⟩ 0 []).2 []).2.er=0 then((tmGo b n ⟨0,0⟩ 0 []).1,(lvlGo b n n (tmGo b n ⟨0,0⟩ 0 []).2 []).1,(lvlGo b n n (tmGo b n ⟨0,0⟩ 0 []).2 []).2.at_,0)else([],[],0,(lvlGo b n n (tmGo b n ⟨0,0⟩ 0 []).2 []).2.er)):=rfl
  have n1:¬(n:Int)<0:=by omega
  have n2:¬(20000:Int)<n:=by omega
  obtain⟨a0,cap,hv,_⟩:=hs.shape
  subst hv
  clear hs
  generalize colR n b=R at *
  generalize tmGo b n ⟨0,0⟩ 0 []=T at *
  go_enter Tryz.func82, Tryz.ntmps82
  go_wp2_with fail
  refine(HNew.out).mono ?_
  rintro e w1 ⟨B,rfl,hC,hf1,hB⟩
  have hBw:=hC.lt
  have hg0:(w1.alloc (.cells #[.pointer (some ⟨B,0,none⟩)] 190)).heap[w1.heap.size]?=some (.cells #[.pointer (some ⟨B,0,none⟩)] 190 (0,0)):=heap_new _ _ _ rfl
  have hf0:Fr w1 (w1.alloc (.cells #[.pointer (some ⟨B,0,none⟩)] 190)):=(Fr.refl w1).alloc _
  have hC0:=hC.fr hf0
  have c0:(w1.alloc (.cells #[.pointer (some ⟨B,0,none⟩)] 190)).cell? ⟨w1.heap.size,0,none⟩=some (.pointer (some ⟨B,0,none⟩)):=by rw [cell_of_heap hg0];rfl
  clear hC HNew
  have hz0:=hf0.size
  have hBg:B≠w1.heap.size:=by omega
  go_wp2_with fail
  generalize w1.alloc (.cells #[.pointer (some ⟨B,0,none⟩)] 190)=W0 at *
  have HT0:=hid (HTm.out B _ W0 hC0)
  refine(HT0.out).mono ?_
  rintro e w2 ⟨u,rfl,hO2,hC2,hc2⟩
  have hG2:=hc2.heap hg0 (fun e=>hBg e.symm)
  have c2:w2.cell? ⟨w1.heap.size,0,none⟩=some (.pointer (some ⟨B,0,none⟩)):=by rw [cell_of_heap hG2];rfl
  have hs2:=hc2.size
  have hs1:=hf1.size
  have HL2:=hid (HLv.out B _ T.2 w2 hC2 (by omega))
  obtain⟨ua,uc,hu⟩:=hO2.shape'
  subst hu
  clear HTm HT0 hC0 hg0 c0
  go_wp2_with fail
  refine(HL2.out).mono ?_
  rintro e w3 ⟨t,rfl,hO3,hC3,hc3⟩
  have hG3:=hc3.heap hG2 (fun e=>hBg e.symm)
  have c3:w3.cell? ⟨w1.heap.size,0,none⟩=some (.pointer (some ⟨B,0,none⟩)):=by rw [cell_of_heap hG3];rfl
  have hU3 := hO2.chg hc3 (fun i hi e => by
    obtain ⟨cs, h5⟩ := hC2.cbox
    exact hO2.ne_cells h5 (by decide) (by rw [hi, show i = B from e]))
  have hch:Chg (fun b=>b=B) w w3:=(((hf1.trans hf0).chg (fun b=>b=B)).trans hc2 fun _ _ h=>h).trans hc3 fun _ _ h=>h
  have hf3:Fr w w3:=hch.fr fun k hk e=>by omega
  have HE3:=hid (HErr.out B _ _ _ w3 hC3)
  have HA3:=hid (HAt.out B _ _ _ w3 hC3)
  have hUr:=hU3.rebase (show w.heap.size<=W0.heap.size by omega)
  have hOr:=hO3.rebase (show w.heap.size<=w2.heap.size by omega)
  obtain⟨ta,tc,ht⟩:=hO3.shape'
  subst ht
  clear HL2 HLv hO2 hC2 hG2 c2 hU3 hO3 hC3 hc2 hc3 hch
  generalize lvlGo b n n T.2 []=V at *
  by_cases he:V.2.er=0
  · rw [if_pos he]at HR
    have he':((V.2.er:Nat):Int)=0:=by omega
    rw [he']at HE3
    clear he he'
    go_wp2_with fail
    refine(HE3.out).mono ?_
    rintro e w4 ⟨rfl,rfl⟩
    go_wp2_with fail
    refine(HA3.out).mono ?_
    rintro e w4 ⟨rfl,rfl⟩
    go_wp2_with fail
    (try simp only [Exit.inBlock,Exit.then])
    refine bodyPost_ret (results_tmp4 rfl _ _ _) rfl ?_
    rw [HR.out]
    exact⟨_,_,rfl,hUr,hOr,hf3⟩
  · rw [if_neg he]at HR
    have he':¬(V.2.er:Int)=0:=by omega
    clear he
    go_wp2_with fail
    refine(HE3.out).mono ?_
    rintro e w4 ⟨rfl,rfl⟩
    go_wp2_with fail
    (try simp only [Exit.inBlock,Exit.then])
    refine bodyPost_ret (results_tmp4 rfl _ _ _) rfl ?_
    rw [HR.out]
    exact⟨_,_,rfl,Ow.nil,Ow.nil,hf3⟩
set_option maxRecDepth 512
end Go.Proofs.YtijghcbpfcjjnaaGreatDoor
