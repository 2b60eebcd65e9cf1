/- Parts of the proof of ArchOne: P1 P2 P3 P4 P5. -/
import Derived.Laws.Tables
import Derived.Lib.ItoaNum
import Derived.Maps.GroupsBeside
import Derived.Sort.KeysCollected
import Derived.StringKeys
import Derived.Test.YtdagmoonnbnceaaGreatDoorIter
import Derived.Test.YtdagmoonnbnceaaGreatDoorM35
import Derived.Test.YtdagmoonnbnceaaGreatDoorM23
import Derived.Test.YtdagmoonnbnceaaGreatDoorM31
import Derived.Test.YtdagmoonnbnceaaGreatDoorM16
import Derived.Test.YtdagmoonnbnceaaGreatDoorM18
import Derived.Test.YtdagmoonnbnceaaGreatDoorM05
set_option linter.unusedVariables false
set_option linter.unusedSectionVars false
set_option linter.unusedSimpArgs false
set_option maxHeartbeats 8000000
set_option maxRecDepth 100000
namespace Go.Proofs.YtdagmoonnbnceaaGreatDoor
open Go.RowKit Go.Fk
def eHJ:Elt Tryz.prog Hd:=⟨55,1,24,⟨none,0,0⟩,.slice none 0 0,fun h=>[h.v],by kernel_rfl,by decide,by decide,by simp [Value.cells],fun _=>rfl,by intro x u hu;simp at hu;subst hu;rfl⟩
def postB(size bound:Nat)(ts:List (List UInt8))(ls:List (List Nat)):List UInt8:=dictB size ts++postRest bound ls
structure IdxOk (bound:Nat) (ts:List (List UInt8)) (ls:List (List Nat)):Prop where
 txt:txtOk ts
 len:ts.length<=10000
 same:ls.length=ts.length
 ne:∀ q∈ls,q≠[]
 ris:∀ q∈ls,risesGo bound 0 q=true
 bnd:bound<=20000
 sum:(postRest bound ls).length<=400000
theorem dictB_len(n:Nat)(l:List (List UInt8))(hn1:1<=n)(hn2:n<=64)(hk:txtOk l)(hl:l.length<=10000):(dictB n l).length<=553520:=by
 have hb25:∀ s∈l,s.length<=25:=fun s h=>(hk.2.1 s h).2
 have h1:=heads_len l n (ckN l.length n) hn1 hn2 hl hb25
 have h2:=bodies_len l n (ckN l.length n) hn1 hn2 hl hb25
 rw [List.take_of_length_le (by rw [chunks_len];exact Nat.le_refl _)]at h1 h2
 have h3:=numB_le l.length (by omega)
 unfold dictB
 rw [List.length_append,List.length_append]
 omega
theorem rest_take(bound:Nat)(ls:List (List Nat))(k:Nat):(postRest bound (ls.take k)).length<=(postRest bound ls).length:=by
 unfold postRest;rw [flat_len,flat_len];exact wtS_take_le _ ls k
theorem rest_snoc(bound:Nat)(ls:List (List Nat))(k:Nat)(h:k<ls.length):postRest bound (ls.take (k+1))=postRest bound (ls.take k)++efL bound ls[k]:=flat_map_snoc _ ls k h
theorem listAt{w:World}{v:Value}{hs:List Hd}{ls:List (List Nat)}(h:Sees2 w eHJ eJ v hs ls)(k:Nat)(hk:k<ls.length):∃ b off cap p c,v=.slice (some ⟨b,off,none⟩) ls.length cap/\w.cell? ⟨b,off+k,none⟩=some (.slice p (ls[k]'hk).length c)/\See w eJ (.slice p (ls[k]'hk).length c) (ls[k]'hk):=by
 have hl:=h.2.1
 obtain⟨b,off,cap,hv,hc⟩:=h.1.cell1 (fun x:Hd=>x.v) rfl k (by omega)
 have hs':=h.2.2 k (by omega) hk
 obtain⟨p,c,hp,_⟩:=hs'.shape
 rw [hp]at hs' hc
 exact⟨b,off,cap,p,c,by rw [hv,hl],hc,hs'⟩
theorem PBytes_any(size bound:Nat)(h1:1<=size)(h2:size<=64)(tv lv:Value)(ts:List (List UInt8))(hs:List Hd)(ls:List (List Nat))(w:World)(ht:See w eS tv ts)(hl:Sees2 w eHJ eJ lv hs ls)(ok:IdxOk bound ts ls) :
  Calls Tryz.prog 53 #[N size,N bound,.agg #[tv,lv]] w fun e w'=>∃ u,e=.returned (.tuple #[u,.int .i64 0])/\Ow w' w.heap.size eB u (postB size bound ts ls)/\Fr w w':=by
 have HD:=hid (fun W (h:See W eS tv ts)=>DWrite_any size h1 h2 tv ts W h ok.txt ok.len)
 have HTs:=hid (fun W (h:Fr w W)=>ht.fr h)
 have HLs:=hid (fun W (h:Fr w W) k hk=>listAt (hl.fr h) k hk)
 have HEf:=hid (fun v q W (hq:q∈ls) (h:See W eJ v q)=>EWrite_any bound ok.bnd v q W h (ok.ris q hq))
 have HNe:=hid ok.ne
 have hdl:=dictB_len size ts h1 h2 ok.txt ok.len
 have HSum:=hid ok.sum
 have HTk:=hid (rest_take bound ls)
 have HSn:=hid (rest_snoc bound ls)
 have HSame:=hid ok.same
 have hbd:=ok.bnd
 have htl:=ok.len
 have HT:Hid (postB size bound ts ls=dictB size ts++postRest bound ls):=rfl
 have HFl:=hid (fun v' hs' W k (hv:Sees2 W eHB eB v' hs' (dictB size ts::(ls.take k).map (efL bound)))=>All_any v' hs' _ W hv)
 generalize postB size bound ts ls=T at *
 generalize dictB size ts=D at *
 obtain⟨ta,tc,rfl,htc1,htc2,_⟩:=ht.shape
 obtain⟨la,lc,rfl,hlc1,hlc2,_⟩:=hl.1.shape
 have HHl:=hid hl.2.1
 clear ok ht hl
 have i1:¬(bound:Int)<0:=by omega
 have i2:¬(20000:Int)<bound:=by omega
 have hne:((ts.length:Int) != (hs.length:Int))=false:=by have:=HHl.out;have:=HSame.out;simp;omega
 go_enter Tryz.func53, Tryz.ntmps53
 go_wp2_with fail
 refine(HD.out _ (HTs.out _ ((Fr.refl w).alloc _))).mono ?_
 rintro e w1 ⟨v1,rfl,hO1,hf1⟩
 have hb0:=hf1.heap (heap_new w (.cells #[.slice ta ts.length tc,.slice la hs.length lc] 95) _ rfl)
 have hf01:Fr w w1:=((Fr.refl w).alloc _).trans hf1
 have c1:=cellx hb0 1 rfl
 obtain⟨p1,z1,rfl⟩:=hO1.shape'
 have hown0:=own_lit eHB w1 #[.slice p1 D.length z1] [⟨p1,D.length,z1⟩] 1 rfl (by simp [maxLen]) hf01.size
 have hf12:Fr w1 (w1.alloc (.cells #[.slice p1 D.length z1] 27)):=(Fr.refl w1).alloc _
 have c2:=hf12.cell c1
 have hO2:=hO1.fr hf12
 have hf02:=hf01.trans hf12
 clear hO1 hb0
 go_upto_region 7 with fail
 change Ow (w1.alloc (.cells #[.slice p1 D.length z1] 27)) _ _ _ _ at hown0
 generalize w1.alloc (.cells #[.slice p1 D.length z1] 27)=w2 at *
 have hD0 : Sees2 w2 eHB eB (.slice (some ⟨w1.heap.size, 0, none⟩) 1 1) [⟨p1, D.length, z1⟩] [D] := ⟨hown0.see, rfl, fun i a b => by
  have : i = 0 := by simp at a; exact a
  subst this
  exact hO2.see⟩
 have HLn:Hid (hs.length=ls.length):=HHl.out
 have hhl:hs.length<=10000:=by have:=HHl.out;have:=HSame.out;omega
 go_wp2_with fail
 go_loopw [10,45] (fun pv iv wr=>∃ (k:Nat) (ps:List Hd),k<=hs.length/\iv=N k/\Ow wr w.heap.size eHB pv ps/\Owns wr w.heap.size eB ps (D::(ls.take k).map (efL bound))/\Fr w wr) (fun _ iv _=>hs.length - (intOf iv).toNat)
 case atStart=>
  refine⟨0,_,Nat.zero_le _,rfl,hown0,⟨by simp,fun t a b=>?_⟩,hf02⟩
  have:t=0:=by simp at a;exact a
  subst this
  exact hO2.rebase (by simp)
 case round=>
  clear hown0 hO2 hD0
  obtain⟨k,ps,hk,rfl,hP,hR,hf⟩:=hrel
  have hpl:ps.length=k+1:=by
   have h1:=hR.1
   have h2:=HLn.out
   rw [List.length_cons,List.length_map,List.length_take]at h1
   omega
  have HPl:=hid hpl
  obtain⟨pa,pc,rfl⟩:=hP.shape'
  have hfw:=hf
  by_cases hlt:k<hs.length
  · have hkl:k<ls.length:=by have:=HLn.out;omega
    obtain⟨b,off,cap',qp,qc,hv,d0,hsq⟩:=HLs.out wr hfw k hkl
    rw [<- HLn.out]at hv
    cases hv
    have hmem:ls[k]∈ls:=List.getElem_mem hkl
    have HE1:=hid (HEf.out _ ls[k] wr hmem hsq)
    have hql:0<ls[k].length:=List.length_pos_iff.2 (HNe.out _ hmem)
    have HT1:Hid (ls.take (k+1)=ls.take k++[ls[k]]):=List.take_succ_eq_append_getElem hkl
    generalize ls[k]=q at *
    have hq0:((q.length:Int) == 0)=false:=beq_eq_false_iff_ne.2 (by omega)
    have i3:(0:Int)<=k:=by omega
    have i4:(k:Int)<hs.length:=by omega
    clear hmem hpl
    go_wp2_with fail
    refine HE1.out.mono ?_
    rintro e w3 ⟨v3,rfl,hO3,hf3⟩
    obtain⟨p3,z3,rfl⟩:=hO3.shape'
    have hP3:=hP.fr hf3
    have hfw3:=hfw.trans hf3
    go_wp2_with (at_builtin;refine wpList_app1 eHB rfl (.tmp 62) (.tmp 64) 80 rfl Tryz.underlying80 w.heap.size rfl hP3 [⟨p3,(efL bound q).length,z3⟩] _ _ _ rfl rfl rfl ?c1 hfw3.size ?_)
    case c1=>have:=HPl.out;first | omega | (simp;omega)
    intro v4 w4 hap
    have hf4:Fr w w4:=hap.below hP3 hfw3 (Nat.le_refl _) hfw3.size
    have hR4:Owns w4 w.heap.size eB (ps++[⟨p3,(efL bound q).length,z3⟩]) (D::(ls.take (k+1)).map (efL bound)):=by
     rw [HT1.out,List.map_append,<- List.cons_append]
     refine⟨by rw [List.length_append,List.length_append,hR.1];rfl,fun t a b=>?_⟩
     by_cases ht:t<ps.length
     · have ht2:t<(D::(ls.take k).map (efL bound)).length:=by rw [<- hR.1];exact ht
       rw [List.getElem_append_left ht,List.getElem_append_left ht2]
       exact own_app ((hR.2 t ht ht2).fr hf3) hP3 hap (by decide)
     · have e1:t=ps.length:=by rw [List.length_append,List.length_singleton]at a;omega
       subst e1
       rw [List.getElem_append_right (Nat.le_refl _)]
       have e2:ps.length=(D::(ls.take k).map (efL bound)).length:=hR.1
       rw [List.getElem_append_right (by rw [<- e2];exact Nat.le_refl _)]
       simp only [Nat.sub_self,e2,List.map_cons,List.map_nil,List.getElem_cons_zero]
       exact own_app (hO3.rebase hfw.size) hP3 hap (by decide)
    have hP4:=hap.own
    clear hR hap hP3 hO3 hP
    go_wp2_with fail
    go_roundw
    case rel=>exact⟨k+1,ps++[⟨p3,(efL bound q).length,z3⟩],by omega,by go_num,hP4,hR4,hf4⟩
    case measure=>simp [intOf];omega
  · obtain rfl:k=hs.length:=by omega
    have hnl:¬(hs.length:Int)<hs.length:=by omega
    rw [List.take_of_length_le (by have:=HLn.out;omega)]at hR
    have HF1 := hid (All_any _ ps _ wr (hR.sees2 hP.see) (by
     have := HSum.out
     unfold postRest at this
     simp only [List.flatten_cons, List.length_append]; omega))
    have HTe:Hid (T=(D::ls.map (efL bound)).flatten):=by show _=_;rw [HT.out];rfl
    rw [<- HTe.out]at HF1
    clear hR hP hpl
    go_wp2_with fail
    refine HF1.out.mono ?_
    rintro e w5 ⟨v5,rfl,hO5,hf5⟩
    go_wp2_with fail
    go_ret2
    exact⟨_,rfl,hO5.rebase hfw.size,hfw.trans hf5⟩
def Rec.ts(r:Rec):TS:=⟨r.text,r.source⟩
def idxL(L:List TS):List (List Nat):=(idxT L).map (idsOf L)
abbrev ixB(tv lv:Value):Obj:=.cells #[tv,lv] 95 (0,0)
end Go.Proofs.YtdagmoonnbnceaaGreatDoor
namespace Go.Proofs.YtdagmoonnbnceaaGreatDoor
open Go.RowKit Go.Fk Go.ChangeShapes
def rowD(zs:List Nat):DataW Unit:=if zs=[]then .nil else .slice (lits .i64 (zs.map Int.ofNat)) []
structure DI (D:DataW Unit) (f:List UInt8->List Nat):Prop where
 map:Maps.IsMap D
 row:∀ s,D.atKey (.string s) .nil=rowD (f s)
 has:∀ s,Maps.has D (.string s)=true↔f s≠[]
theorem DI.empty:DI (.map []) (fun _=>[]):=⟨Maps.isMap_empty,fun _=>rfl,fun _=>by simp [Maps.has]⟩
theorem DI.put{D:DataW Unit}{f:List UInt8->List Nat}(h:DI D f)(t:List UInt8)(zs:List Nat)(hne:zs≠[]):DI (D.put (.string t) (rowD zs)) (fun s=>if s=t then zs else f s):=by
 have hk:WideAt.IsKeyLit (.string t):=trivial
 refine⟨h.map.put _ _,fun s=>?_,fun s=>?_⟩
 · by_cases e:s=t
   · subst e
     rw [Maps.atKey_put_same h.map hk,if_pos rfl]
   · rw [Maps.atKey_put_other (by simpa using e),if_neg e]
     exact h.row s
 · by_cases e:s=t
   · subst e
     rw [Maps.has_put_same h.map hk,if_pos rfl]
     simp [hne]
   · rw [Maps.has_put_other (by simpa using e),if_neg e]
     exact h.has s
theorem lits_inj{a b:List Int}(h:(lits .i64 a:List (DataW Unit))=lits .i64 b):a=b:=by
 refine(List.map_inj_right (fun x y hxy=>?_)).1 h
 simpa using hxy
theorem DI.look{D:DataW Unit}{f:List UInt8->List Nat}(h:DI D f){t:List UInt8}{w:World}{base:Nat}{e:TypeId}{v:Value}{zs:List Int}(hat:D.atKey (.string t) .nil=rowDatum .i64 v zs)(ho:w.ownsInts base e .i64 v zs):zs=(f t).map Int.ofNat:=by
 rw [h.row t]at hat
 unfold rowD at hat
 rcases ho.datum (H:=Unit)with⟨h1,h2⟩ | h1
 · rw [h1]at hat
   split at hat
   · rename_i h3;rw [h3,h2];rfl
   · cases hat
 · rw [h1]at hat
   split at hat
   · cases hat
   · simp only [DataW.slice.injEq,and_true]at hat
     exact(lits_inj hat).symm
theorem cells_J(l:List Nat):eJ.cells l=l.map N:=by
 induction l with
 | nil=>rfl
 | cons x l ih=>
  show [N x]++eJ.cells l=_
  rw [ih];rfl
theorem map_N(l:List Nat):(l.map Int.ofNat).map (Value.int .i64)=l.map N:=by rw [List.map_map];rfl
theorem ints_ow{w:World}{base:Nat}{v:Value}{l:List Nat}(h:w.ownsInts base 3 .i64 v (l.map Int.ofNat)):Ow w base eJ v l:=by
 have:=h.1
 rw [List.length_map,map_N]at this
 unfold Ow
 rw [cells_J]
 exact this
theorem ow_ints{w:World}{base:Nat}{v:Value}{l:List Nat}(h:Ow w base eJ v l)(hb:∀ x∈l,x<1000000000):w.ownsInts base 3 .i64 v (l.map Int.ofNat):=by
 refine⟨?_,fun z hz=>?_⟩
 · unfold Ow at h
   rw [cells_J]at h
   rw [List.length_map,map_N]
   exact h
 · obtain⟨x,hx,rfl⟩:=List.mem_map.1 hz
   have:=hb x hx
   show(decide (IntKind.i64.min<=Int.ofNat x) && decide (Int.ofNat x<=IntKind.i64.max))=true
   have e1:IntKind.i64.min=-9223372036854775808:=rfl
   have e2:IntKind.i64.max=9223372036854775807:=rfl
   rw [e1,e2,decide_eq_true (by simp only [Int.ofNat_eq_natCast];omega),decide_eq_true (by simp only [Int.ofNat_eq_natCast];omega)]
   rfl
theorem rowD_of{w:World}{base:Nat}{v:Value}{l:List Nat}(h:w.ownsInts base 3 .i64 v (l.map Int.ofNat))(hne:l≠[]):rowDatum (H:=Unit) .i64 v (l.map Int.ofNat)=rowD l:=by
 rw [h.datum_pos (by simpa using hne)]
 unfold rowD
 rw [if_neg hne]
theorem fr_grown{w w':World}(h:Fr w w')(row:Option Nat):w.grownBy w' row:=⟨Below.os h,Below.tape h,Below.output h,Below.size h,fun k hk _=>Below.block h k hk⟩
theorem groups_fr{w w':World}{k:TypeId}{base b n:Nat}{D:DataW Unit}(h:w.ownsGroups Tryz.prog k base 3 .i64 b n D)(hf:Fr w w'):w'.ownsGroups Tryz.prog k base 3 .i64 b n D:=
 h.kept (fr_grown hf none) (by simp) (fun _ _ _ x _=>by cases x.val.ownBlock <;> simp)
theorem str_law:Maps.Keyed Tryz.prog 9:=Maps.string_keyed Tryz.underlying9
theorem zeroRow(w:World):(zeroValue 55).run Tryz.prog w=.ok (.slice none 0 0) w:=by kernel_rfl
theorem keyS(s:List UInt8)(h:s.length<=maxLen):keyOf Tryz.prog 9 (S s)=some (.string s):=Go.WideMaps.keyOf_string_mk Tryz.underlying9 (by simpa [ByteArray.size] using h)
theorem keys_sorted{w:World}{R:Value->Option (DataW Unit × List MemPlace)}{b n:Nat}{D:DataW Unit}{f:List UInt8->List Nat}(hD:DI D f)(ho:w.ownsMap Tryz.prog 9 R b n D){T:List (List UInt8)}(hT:RisS T)(hm:∀ s,s∈T↔f s≠[]){ss:List (List UInt8)}(hp:ss.Perm (strKeys D)) :
  ss.mergeSort (fun x y=>decide (x<=y))=T:=by
 have hnd:T.Nodup:=hT.imp fun {a b} hab e=>by subst e;exact List.lt_irrefl _ hab
 have hc:Collected D (fun _=>false) T:=⟨hnd,fun x=>by rw [hm x,hD.has x];simp⟩
 have hp2:=hp.trans (hc.perm ho str_law Tryz.underlying9 (fun _=>rfl)).symm
 have h1:=mergeSort_of_perm hp2
 have h2:T.mergeSort leB=T:=by
  refine List.mergeSort_of_pairwise (hT.imp fun {a b} hab=>?_)
  simp only [leB,decide_eq_true_eq]
  exact List.le_of_lt hab
 rw [h2]at h1
 exact h1
end Go.Proofs.YtdagmoonnbnceaaGreatDoor
namespace Go.Proofs.YtdagmoonnbnceaaGreatDoor
open Go.RowKit Go.Fk
theorem Build_any (v : Value) (l : List Rec) (w : World) (hs : See w eR v l) (hl : l.length ≤ 20000) (hb : ∀ r ∈ l, r.text.length ≤ 100000 ∧ r.source.length ≤ 100000) (hw : wtS (fun r : TS => r.text.length + r.source.length) (l.map Rec.ts) ≤ 1048576) :
    Calls Tryz.prog 54 #[v] w fun e w'=>∃ tv lv hs,e=.returned (.agg #[tv,lv])/\See w' eS tv (idxT (l.map Rec.ts))/\Sees2 w' eHJ eJ lv hs (idxL (l.map Rec.ts))/\Fr w w':=by
  obtain⟨a0,cap,rfl,hcap1,hcap2,hnone⟩:=hs.shape
  unfold maxLen at hcap2
  have HRec:=hid (fun W (h:Fr w W) k hk=>recAt (hs.fr h) k hk)
  have HB:=hid hb
  have HTe:=hid (fun r W (h1:r.text.length<=1000000) (h2:r.source.length<=1000000)=>Terms_any r W h1 h2)
  have hLl:(l.map Rec.ts).length=l.length:=List.length_map _
  have HLl:=hid hLl
  have HLa:Hid (∀ k (h:k<l.length) (h2:k<(l.map Rec.ts).length),(l.map Rec.ts)[k]=l[k].ts):=fun k h h2=>by simp
  have HW:Hid (∀ k,wtS (fun r:TS=>r.terms.length) ((l.map Rec.ts).take k)<=1048576):=fun k=>
    Nat.le_trans (wtS_mono _ _ _ (fun r _=>terms_len r)) (Nat.le_trans (wtS_take_le _ _ k) hw)
  have HSn:=hid (fun k h=>wtS_snoc (fun r:TS=>r.terms.length) (l.map Rec.ts) k h)
  have HIs:=hid (fun t k h=>ids_snoc (l.map Rec.ts) t k h)
  have HTl:=hid (Nat.le_trans (idxT_len (l.map Rec.ts)) hw)
  have HTm:=hid (fun s=>idxT_mem (l.map Rec.ts) s)
  have hmm:=@run_makeMap Tryz.prog
  have HGm:=hid (World.ownsGroups_made (H:=Unit) (w.alloc (.cells #[.slice none 0 0,.slice none 0 0] 95)) Tryz.prog 9 3 .i64)
  clear hs hb hw hnone hLl
  generalize l.map Rec.ts=L at *
  go_enter Tryz.func54, Tryz.ntmps54
  go_upto_region 2 with fail
  have hsz0:(w.alloc (.cells #[.slice none 0 0,.slice none 0 0] 95)).heap.size=w.heap.size+1:=size_alloc _ _
  rw [hsz0]at HGm
  have hfa:Fr w (w.alloc (.cells #[.slice none 0 0,.slice none 0 0] 95)):=(Fr.refl w).alloc _
  have g0:=heap_new w (.cells #[.slice none 0 0,.slice none 0 0] 95) w.heap.size rfl
  generalize w.alloc (.cells #[.slice none 0 0,.slice none 0 0] 95)=A1 at *
  have hfb:Fr A1 (A1.alloc (.map #[] 0)):=(Fr.refl A1).alloc _
  have g0':=hfb.heap g0
  have hf2:Fr w (A1.alloc (.map #[] 0)):=hfa.trans hfb
  generalize A1.alloc (.map #[] 0)=A2 at *
  obtain⟨R,hR⟩:∃ R,R=w.heap.size:=⟨_,rfl⟩
  rw [<- hR]at g0' HGm
  have HRs:=hid hR
  rw [<- hR]
  clear hfa hfb g0 hsz0 hmm hR
  have hD0:DI (.map []) (fun s=>idsOf (L.take 0) s):=by
    have:(fun s=>idsOf (L.take 0) s)=fun _=>([]:List Nat):=by funext s;simp [idsOf]
    rw [this];exact DI.empty
  go_wp2_with fail
  go_loopw [14] (fun iv wr=>∃ (i n:Nat) (D:DataW Unit),i<=l.length/\iv=N i/\wr.heap[R]? = some (ixB (.slice none 0 0) (.slice none 0 0))/\wr.ownsGroups Tryz.prog 9 (R+1+1) 3 .i64 (R+1) n D/\Hid (DI D (fun s=>idsOf (L.take i) s))/\Hid (n<=wtS (fun r:TS=>r.terms.length) (L.take i))/\Fr w wr) (fun iv _=>l.length - (intOf iv).toNat)
  case atStart=>exact⟨0,0,_,Nat.zero_le _,rfl,g0',HGm.out,hD0,Nat.zero_le _,hf2⟩
  case round=>
    clear g0' HGm hf2 hD0
    obtain⟨i,n,D,hi,rfl,hX0,hG,HDi,HN,hf⟩:=hrel
    by_cases hlt:i<l.length
    · obtain⟨b,off,cap',hv,c0,c1,c2,c3⟩:=HRec.out wr hf i hlt
      cases hv
      have hbk:=HB.out _ (List.getElem_mem hlt)
      have hiL:i<L.length:=by rw [HLl.out];exact hlt
      have e1:=HLa.out i hlt hiL
      have HW1:=hid (HSn.out i hiL)
      have HI1:=hid (fun t=>HIs.out t i hiL)
      rw [e1]at HW1 HI1
      have hW2:=HW.out (i+1)
      have HT1:=hid (HTe.out l[i] (wr.alloc (.cells #[.int .u64 l[i].time.toNat,Fk.u8 l[i].level,S l[i].source,S l[i].text] 36)) (by omega) (by omega))
      have HTs:Hid (termsL l[i].text l[i].source=l[i].ts.terms):=rfl
      rw [HTs.out]at HT1
      have HTr:Hid (RisS l[i].ts.terms):=termsL_ris _ _
      have HTe2:=hid (terms_each l[i].ts)
      clear e1 HTs hbk
      generalize hw2e:wtS (fun r:TS=>r.terms.length) (L.take (i+1))=w2n at *
      have HW2e:=hid hw2e
      clear hw2e
      have HN2:Hid (n<=w2n - l[i].ts.terms.length/\l[i].ts.terms.length<=w2n):=by
        have h1:=HN.out
        have h2:=HW1.out
        show _/\_
        omega
      clear HN HW1
      generalize l[i].ts.terms=tm at *
      have html:tm.length<=1048576:=by have:=HN2.out;omega
      generalize l[i]=r at *
      have i1:(0:Int)<=i:=by omega
      have i2:(i:Int)<l.length:=by omega
      have hszr:R+1+1<=wr.heap.size:=(Array.getElem?_eq_some_iff.1 (show wr.heap[R+1]? = _ from(Classical.choose_spec (Classical.choose_spec hG)).1)).1
      go_wp2_with fail
      refine HT1.out.mono ?_
      rintro e w3 ⟨tmv,rfl,hTm,hf3⟩
      obtain⟨ta,tc,rfl⟩:=hTm.shape'
      have hfa:Fr wr (wr.alloc (.cells #[.int .u64 r.time.toNat,Fk.u8 r.level,S r.source,S r.text] 36)):=(Fr.refl wr).alloc _
      have hTm':=hTm.rebase (b:=R+1+1) (Nat.le_trans hszr hfa.size)
      have hX03:=(hfa.trans hf3).heap hX0
      have hG3:=groups_fr hG (hfa.trans hf3)
      have hf03:=hf.trans (hfa.trans hf3)
      clear hTm hX0 hG hf hfa HT1 hf3 c0 c1 c2 c3
      go_wp2_with fail
      go_loopw [22] (fun kv wq=>∃ (k n2:Nat) (D2:DataW Unit),k<=tm.length/\kv=N k/\wq.heap[R]? = some (ixB (.slice none 0 0) (.slice none 0 0))/\wq.ownsGroups Tryz.prog 9 (R+1+1) 3 .i64 (R+1) n2 D2/\Hid (DI D2 (fun s=>idsOf (L.take i) s++if s∈tm.take k then [i]else []))/\Hid (n2<=n+k)/\Ow wq (R+1+1) eS (.slice ta tm.length tc) tm/\Fr w wq) (fun kv _=>tm.length - (intOf kv).toNat)
      case atStart=>exact⟨0,n,D,Nat.zero_le _,rfl,hX03,hG3,by have:=HDi.out;simpa using hid this,Nat.le_refl _,hTm',hf03⟩
      case round=>
        clear hX03 hG3 hTm' hf03
        obtain⟨k,n2,D2,hk,rfl,hX0,hG,HD2,Hn2,hTm,hf⟩:=hrel
        by_cases hlt2:k<tm.length
        · obtain⟨b2,off2,cap2,hv2,d0⟩:=strAt hTm.see k hlt2
          cases hv2
          have hx25:=(HTe2.out tm[k] (List.getElem_mem hlt2)).2
          have hnot:tm[k] ∉ tm.take k:=fun h=>by
            obtain⟨q,hq,he⟩:=List.mem_iff_getElem.1 h
            rw [List.getElem_take]at he
            rw [List.length_take]at hq
            have:=List.pairwise_iff_getElem.1 HTr.out q k (by omega) hlt2 (by omega)
            rw [he]at this
            exact List.lt_irrefl _ this
          have HTk1:Hid (∀ s,s∈tm.take (k+1)↔s∈tm.take k\/s=tm[k]):=fun s=>by rw [List.take_succ_eq_append_getElem hlt2,List.mem_append,List.mem_singleton]
          have hkey:=keyS tm[k] (by unfold maxLen;omega)
          have hn2m:n2<maxLen:=by have:=Hn2.out;have:=HN2.out;unfold maxLen;omega
          have HNot:=hid hnot
          clear hnot
          generalize tm[k]=x at *
          have k1:(0:Int)<=k:=by omega
          have k2:(k:Int)<tm.length:=by omega
          go_wp2_with (at_lookup;refine wpList_lookup_groups _ rfl _ _ 136 rfl 9 55 3 .i64 str_law Tryz.underlying136 (zeroRow _) (R+1+1) (R+1) n2 D2 rfl hG hn2m _ _ rfl hkey ?_)
          intro v zs hat hoi hzl hback
          have hzs:=HD2.out.look hat hoi
          rw [if_neg HNot.out,List.append_nil]at hzs
          have HId:Hid (∀ q∈idsOf (L.take i) x,q<1000000000):=fun q hq=>by
            have:=ids_lt _ _ q hq
            rw [List.length_take]at this;omega
          have HD2':Hid (∀ s,s≠x->(fun s=>idsOf (L.take i) s++if s∈tm.take k then [i]else []) s=idsOf (L.take i) s++if s∈tm.take (k+1)then [i]else []):=fun s hs=>by
            have h1:=HTk1.out s
            by_cases h2:s∈tm.take k
            · simp only [if_pos h2,if_pos (h1.2 (.inl h2))]
            · simp only [if_neg h2,if_neg (fun h=>(h1.1 h).elim h2 hs)]
          generalize hidx:idsOf (L.take i) x=ids at *
          have HIx:=hid hidx
          clear hidx hat
          subst hzs
          rw [List.length_map]at hzl
          have hOv:=ints_ow hoi
          obtain⟨pv,cv,rfl⟩:=hOv.shape'
          have hszr2:R+1+1<=wr.heap.size:=by
            have h1:=hG
            obtain⟨es,clock,hb,_⟩:=h1
            exact(Array.getElem?_eq_some_iff.1 hb).1
          have HG:=hid hG
          clear hG
          go_wp2_with (at_builtin;refine wpList_app1 eJ rfl (.tmp 30) (.tmp 32) 55 rfl Tryz.underlying55 (R+1+1) rfl hOv [i] _ _ _ rfl rfl rfl ?c1 hszr2 ?_)
          case c1=>have:=Hn2.out;have:=HN2.out;first | omega | (simp;omega)
          intro v4 w4 hap
          have hO4:=hap.own
          have hI4 := ow_ints hO4 (fun q hq => by
            rcases List.mem_append.1 hq with h | h
            · exact HId.out q h
            · simp at h; omega)
          have hloc:v4.ownBlock=(Value.slice pv ids.length cv).ownBlock\/∃ g,v4.ownBlock=some g/\wr.heap.size<=g:=by
            obtain⟨g,c,he,_⟩:=hO4.atHead (by simp)
            rcases hap.fresh g (by rw [he];rfl)with h | h
            · exact .inl (by rw [h,he];rfl)
            · exact .inr ⟨g,by rw [he];rfl,h⟩
          have hTm4:=own_app hTm hOv hap (by decide)
          have hX4:w4.heap[R]? = some (ixB (.slice none 0 0) (.slice none 0 0)):=hap.chg'.heap hX0 (fun e=>by have:=(hOv.lt R e).1;omega)
          have hf4:Fr w w4:=hap.below hOv hf (by have:=HRs.out;omega) hf.size
          have hch:=hap.chg
          have hl4:((ids++[i]).map Int.ofNat).length<=n2+1:=by simp;omega
          obtain⟨p4,z4,rfl⟩:=hO4.shape'
          have HLoc:=hid hloc
          have HI4:=hid hI4
          have HL4:=hid hl4
          have HCh:=hid hch
          clear hloc hI4 hl4 hch
          clear hap hOv hoi hO4 hTm hX0 hf d0
          go_wp2_with (at_mapUpdate;refine wpList_mapUpdate_back _ rfl _ _ _ 136 rfl hback rfl rfl rfl HCh.out HI4.out HL4.out HLoc.out ?_)
          intro w5 hG5 hg5
          have hrd:rowDatum (H:=Unit) .i64 (.slice p4 (ids.length+1) z4) (ids.map Int.ofNat++[(i:Int)])=rowD (ids++[i]):=by have:=rowD_of HI4.out (by simp);simpa using this
          rw [hrd]at hG5
          clear hrd
          have hDn:=HD2.out.put x (ids++[i]) (by simp)
          have HD5:Hid (DI (D2.put (.string x) (rowD (ids++[i]))) (fun s=>idsOf (L.take i) s++if s∈tm.take (k+1)then [i]else [])):=by
            have e:(fun s=>idsOf (L.take i) s++if s∈tm.take (k+1)then [i]else [])=fun s=>if s=x then ids++[i]else idsOf (L.take i) s++if s∈tm.take k then [i]else []:=by
              funext s
              by_cases hsx:s=x
              · subst hsx
                rw [if_pos rfl,if_pos ((HTk1.out s).2 (.inr rfl)),HIx.out]
              · rw [if_neg hsx];exact(HD2'.out s hsx).symm
            show DI _ _
            rw [e];exact hDn
          have hX5:w5.heap[R]? = some (ixB (.slice none 0 0) (.slice none 0 0)):=(grown_chg hg5).heap hX4 (fun e=>by simp at e)
          have hTm5 := hTm4.kept hg5 (by
            cases hq : (Value.slice (some ⟨b2, off2, none⟩) tm.length tc).ownBlock with
            | none => exact .inl rfl
            | some g => refine .inr (fun e => ?_); have := (hTm4.lt g hq).1; cases e; omega)
          have hf5:Fr w w5:=hf4.own hg5 (fun q hq=>by cases hq;have:=HRs.out;omega)
          clear hDn hX4 hTm4 hf4 hg5 hback HG hszr2 HD2 HD2' HIx HId hzl
          go_wp2_with fail
          go_roundw
          case rel=>exact⟨k+1,n2+1,_,by omega,by go_num,hX5,hG5,HD5,by have:=Hn2.out;show _<=_;omega,hTm5,hf5⟩
          case measure=>simp [intOf];omega
        · obtain rfl:k=tm.length:=by omega
          have hnl:¬(tm.length:Int)<tm.length:=by omega
          have HD3:Hid (DI D2 (fun s=>idsOf (L.take (i+1)) s)):=by
            have e:(fun s=>idsOf (L.take (i+1)) s)=fun s=>idsOf (L.take i) s++if s∈tm.take tm.length then [i]else []:=by
              funext s;rw [HI1.out s,List.take_length]
            show DI _ _
            rw [e];exact HD2.out
          go_wp2_with fail
          go_roundw
          case rel=>exact⟨i+1,n2,D2,by omega,by go_num,hX0,hG,HD3,by rw [HW2e.out];have:=Hn2.out;have:=HN2.out;show _<=_;omega,hf⟩
          case measure=>simp [intOf];omega
    · obtain rfl:i=l.length:=by omega
      have hnl:¬(l.length:Int)<l.length:=by omega
      have hTL:L.take l.length=L:=by rw [<- HLl.out,List.take_length]
      have hDl:DI D (fun s=>idsOf L s):=by have:=HDi.out;rwa [hTL]at this
      have HDl:=hid hDl
      have HIl:=hid (fun s=>ids_lt L s)
      have hnn:n<=1048576:=by have h1:=HN.out;have h2:=HW.out l.length;omega
      clear hTL hDl HDi HN HW HSn HIs HTe HB HRec
      have hszr:R+1+1<=wr.heap.size:=by
        have h1:=hG
        obtain⟨es,clock,hb,_⟩:=h1
        exact(Array.getElem?_eq_some_iff.1 hb).1
      have hfo:Fr wr (wr.alloc (.cells #[.slice none 0 0,.slice none 0 0] 95)):=(Fr.refl wr).alloc _
      have gO:=heap_new wr (.cells #[.slice none 0 0,.slice none 0 0] 95) wr.heap.size rfl
      have hX1:=hfo.heap hX0
      have hG1:=groups_fr hG hfo
      have hf1:=hf.trans hfo
      have hszO:wr.heap.size<(wr.alloc (.cells #[.slice none 0 0,.slice none 0 0] 95)).heap.size:=by simp
      have hKe:=fun W=>callsIn_wide.1 (Tryz.maps_Keys_85 (some (R+1)) W)
      have hOm:∀ W:World,W.ownsGroups Tryz.prog 9 (R+1+1) 3 .i64 (R+1) n D->W.ownsMap Tryz.prog 9 (rowElem (H:=Unit) W (R+1+1) 3 .i64) (R+1) n D:=fun W h=>by
        obtain⟨es,clock,h1,h2,h3,h4,_⟩:=h
        exact⟨es,clock,h1,h2,h3,h4⟩
      have hTr:=idxT_ris L
      have HMa:=hid (hOm _ hG1)
      have hsz:=HMa.out.size_le
      have HSo:=hid (callsIn_wide.1 (Tryz.slices_Sorted_keys_84_85 (R+1) n D _ _ HMa.out (by unfold maxLen;omega) (by omega)))
      have HGr:=hid (fun W (h:Fr wr W)=>groups_fr hG h)
      clear hOm hsz hG hG1 hf hX0
      obtain⟨ob,hob⟩:∃ ob,ob=wr.heap.size:=⟨_,rfl⟩
      rw [<- hob]at gO hszO hszr
      have HOb:=hid hob
      have HKe:=hid hKe
      clear hKe
      go_upto_region 12 with fail
      rw [<- hob]
      clear hob
      generalize wr.alloc (.cells #[.slice none 0 0,.slice none 0 0] 95)=W1 at *
      have hfk:Fr W1 (W1.alloc (.cells #[.map (some (R+1))] 136)):=(Fr.refl W1).alloc _
      go_wp2_with fail
      refine(HKe.out _).mono ?_
      rintro e w2 ⟨rfl,rfl⟩
      go_wp2_with fail
      refine HSo.out.mono ?_
      rintro e w3 ⟨tsv,ss,rfl,hpm,hrow,_,hb3⟩
      have hf3:Fr W1 w3:=hfk.trans hb3
      have hsort := keys_sorted HDl.out HMa.out hTr (fun s => by
        rw [HTm.out s]
        constructor
        · rintro ⟨r, hr, hs⟩ e
          obtain ⟨q, hq, rfl⟩ := List.mem_iff_getElem.1 hr
          have := (ids_mem L s q hq).2 hs
          rw [e] at this; cases this
        · intro hne
          obtain ⟨q, hq⟩ := List.exists_mem_of_ne_nil _ hne
          have hql := ids_lt L s q hq
          exact ⟨L[q], List.getElem_mem hql, (ids_mem L s q hql).1 hq⟩) hpm
      have hTs:Ow w3 (ob+1) eS tsv (idxT L):=by
        have hl2:ss.length=(idxT L).length:=by rw [<- hsort,List.length_mergeSort]
        rw [hsort,hl2,<- cells_str]at hrow
        have h4:Ow w3 (W1.alloc (.cells #[.map (some (R+1))] 136)).heap.size eS tsv (idxT L):=hrow
        exact h4.rebase (by rw [size_alloc];omega)
      have hX3:=hf3.heap hX1
      have hO3:=hf3.heap gO
      have hfw3:Fr w w3:=hf1.trans hf3
      have hfr3:Fr wr w3:=hfo.trans hf3
      have HLi:Hid (idxL L=(idxT L).map (idsOf L)):=rfl
      have hTl:=HTl.out
      have HEa:=hid (idxT_each L)
      clear hrow hpm hsort hb3 HKe HSo HMa hTr gO hX1 hf1 hfo hfk hf3 HTm HTl hszO
      generalize hTe:idxT L=T at *
      have HTd:=hid hTe
      clear hTe
      obtain⟨ta,tc,rfl⟩:=hTs.shape'
      obtain⟨wo,rfl⟩:∃ wo:World,wo=wr:=⟨_,rfl⟩
      go_wp2_with fail
      go_loopw [40] (fun kv wq=>∃ (k:Nat) (tv lv:Value) (hs:List Hd),k<=T.length/\kv=N k/\wq.heap[ob]? = some (ixB tv lv)/\wq.heap[R]? = some (ixB (.slice none 0 0) (.slice none 0 0))/\Ow wq (ob+1) eS (.slice ta T.length tc) T/\Ow wq (ob+1) eS tv (T.take k)/\(tv.ownBlock=none\/tv.ownBlock≠(Value.slice ta T.length tc).ownBlock)/\Ow wq (ob+1) eHJ lv hs/\Owns wq (R+1+1) eJ hs ((T.take k).map (idsOf L))/\Fr w wq/\Fr wo wq) (fun kv _=>T.length - (intOf kv).toNat)
      case atStart=>exact⟨0,_,_,[],Nat.zero_le _,rfl,hO3,hX3,hTs,by simpa using Ow.nil,.inl rfl,Ow.nil,⟨rfl,fun t a=>by simp at a⟩,hfw3,hfr3⟩
      case round=>
        clear hO3 hX3 hTs hfw3 hfr3
        obtain⟨k,tv,lv,hs,hk,rfl,hOb,hX0,hTs,hTv,hap,hLv,hRw,hf,hfr⟩:=hrel
        by_cases hlt2:k<T.length
        · obtain⟨b2,off2,cap2,hv2,d0⟩:=strAt hTs.see k hlt2
          cases hv2
          have hx25:=(HEa.out T[k] (List.getElem_mem hlt2)).2
          have HT1:Hid (T.take (k+1)=T.take k++[T[k]]):=List.take_succ_eq_append_getElem hlt2
          have htkl:(T.take k).length=k:=by rw [List.length_take];omega
          have hkey:=keyS T[k] (by unfold maxLen;omega)
          have hhl:hs.length=k:=by have:=hRw.1;rw [List.length_map,htkl]at this;exact this
          generalize T.take k=tk at *
          generalize T[k]=x at *
          have HKl:=hid htkl
          have HHl:=hid hhl
          clear htkl hhl
          obtain⟨pt,ct,rfl⟩:=hTv.shape'
          obtain⟨pl,cl,rfl⟩:=hLv.shape'
          have x0:=cellx hOb 0 rfl
          have hszq:ob+1<=wr.heap.size:=(Array.getElem?_eq_some_iff.1 hOb).1
          have k1:(0:Int)<=k:=by omega
          have k2:(k:Int)<T.length:=by omega
          go_wp2_with (at_builtin;refine wpList_app1 eS rfl (.tmp 45) (.tmp 47) 92 rfl Tryz.underlying92 (ob+1) rfl hTv [x] _ _ _ rfl rfl rfl ?c1 hszq ?_)
          case c1=>have:=HKl.out;first | omega | (simp;omega)
          intro v4 w4 hap4
          have hOb4:=hap4.chg'.heap hOb (hTv.ne_cells hOb (by decide))
          have hX04:=hap4.chg'.heap hX0 (fun e=>by have:=(hTv.lt R e).1;omega)
          have hTs4:=hap4.other hTs (ne_flip hap)
          have hap5:=hap4.apart hTs (ne_flip hap)
          have hLv4:=own_app hLv hTv hap4 (by decide)
          have hRw4:Owns w4 (R+1+1) eJ hs (tk.map (idsOf L)):=⟨hRw.1,fun t h1 h2=>own_app (hRw.2 t h1 h2) hTv hap4 (by decide)⟩
          have hf4:Fr w w4:=hap4.below hTv hf (by have:=HRs.out;omega) hf.size
          have hfr4:Fr wo w4:=hap4.below hTv hfr (by have:=HOb.out;omega) hfr.size
          have hTv4:=hap4.own
          obtain⟨p4,z4,rfl⟩:=hTv4.shape'
          obtain⟨tk2,htk2⟩:∃ tk2,tk2=tk++[x]:=⟨_,rfl⟩
          rw [<- htk2]at hTv4 HT1 hap5
          have HTk2:=hid htk2
          have e4:=cellx hOb4 0 rfl
          have f4:w4.frozen? ⟨ob,0,none⟩=false:=frozen_of_heap hOb4 0
          rw [<- htk2]
          clear hTv hOb hX0 hTs hap hLv hRw hf hfr hap4 x0 htk2
          have hst:=setCell_chg w4 ⟨ob,0,none⟩ (.slice p4 tk2.length z4)
          have hOb5:(w4.setCell ⟨ob,0,none⟩ (.slice p4 tk2.length z4)).heap[ob]? = some (ixB (.slice p4 tk2.length z4) (.slice pl hs.length cl)):=by have:=heap_setCell_own hOb4 0 (.slice p4 tk2.length z4);simpa using this
          have hX05:=hst.heap hX04 (by simp;omega)
          have hTs5:=own_set_other (i:=0) (u:=.slice p4 tk2.length z4) hTs4 (show ob<ob+1 by omega)
          have hTv5:=own_set_other (i:=0) (u:=.slice p4 tk2.length z4) hTv4 (show ob<ob+1 by omega)
          have hLv5:=own_set_other (i:=0) (u:=.slice p4 tk2.length z4) hLv4 (show ob<ob+1 by omega)
          have hRw5:Owns (w4.setCell ⟨ob,0,none⟩ (.slice p4 tk2.length z4)) (R+1+1) eJ hs (tk.map (idsOf L)):=⟨hRw4.1,fun t h1 h2=>(hRw4.2 t h1 h2).chg hst (fun q hq e=>(hRw4.2 t h1 h2).ne_cells hOb4 (by decide) (by rw [hq,e]))⟩
          have hf5:Fr w (w4.setCell ⟨ob,0,none⟩ (.slice p4 tk2.length z4)):=set_below hf4 (by have:=HRs.out;omega) hf4.size
          have hfr5:Fr wo (w4.setCell ⟨ob,0,none⟩ (.slice p4 tk2.length z4)):=set_below hfr4 (by have:=HOb.out;omega) hfr4.size
          go_upto_region 16 with fail
          generalize w4.setCell ⟨ob,0,none⟩ (.slice p4 tk2.length z4)=w5 at *
          clear hOb4 hX04 hTs4 hTv4 hLv4 hRw4 hf4 hfr4 e4 f4 hst d0
          have x5:=cellx hOb5 1 rfl
          have hG5:=HGr.out w5 hfr5
          have hszq5:ob+1<=w5.heap.size:=(Array.getElem?_eq_some_iff.1 hOb5).1
          go_wp2_with (at_lookup;refine wpList_lookup_groups _ rfl _ _ 136 rfl 9 55 3 .i64 str_law Tryz.underlying136 (zeroRow _) (R+1+1) (R+1) n D rfl hG5 (by unfold maxLen;omega) _ _ rfl hkey ?_)
          intro v zs hat hoi hzl hback
          have hzs:=HDl.out.look hat hoi
          have HIx:Hid (((tk.map (idsOf L))++[idsOf L x])=(tk2.map (idsOf L))):=by show _=_;rw [HTk2.out,List.map_append];rfl
          generalize idsOf L x=ids at *
          subst hzs
          rw [List.length_map]at hzl
          have hOv:=ints_ow hoi
          obtain⟨pv,cv,rfl⟩:=hOv.shape'
          clear hat hoi hback hG5
          go_wp2_with (at_builtin;refine wpList_app1 eHJ rfl (.tmp 51) (.tmp 55) 93 rfl Tryz.underlying93 (ob+1) rfl hLv5 [⟨pv,ids.length,cv⟩] _ _ _ rfl rfl rfl ?c1 hszq5 ?_)
          case c1=>have:=HHl.out;first | omega | (simp;omega)
          intro v6 w6 hap6
          have HOb6:=hid (hap6.chg'.heap hOb5 (hLv5.ne_cells hOb5 (by decide)))
          have HX06:=hid (hap6.chg'.heap hX05 (fun e=>by have:=(hLv5.lt R e).1;omega))
          have hTs6:=own_app hTs5 hLv5 hap6 (by decide)
          have hTv6:=own_app hTv5 hLv5 hap6 (by decide)
          have hOv6:=own_app hOv hLv5 hap6 (by decide)
          have hRw6:∀ t (h1:t<hs.length) (h2:t<(tk.map (idsOf L)).length),Ow w6 (R+1+1) eJ hs[t].v (tk.map (idsOf L))[t]:=fun t h1 h2=>own_app (hRw5.2 t h1 h2) hLv5 hap6 (by decide)
          have HRn:=hid hRw5.1
          have HR6:=hid hRw6
          have hf6:Fr w w6:=hap6.below hLv5 hf5 (by have:=HRs.out;omega) hf5.size
          have hfr6:Fr wo w6:=hap6.below hLv5 hfr5 (by have:=HOb.out;omega) hfr5.size
          have hLv6:=hap6.own
          obtain⟨p6,z6,rfl⟩:=hLv6.shape'
          obtain⟨hs2,hhs2⟩:∃ hs2,hs2=hs++[(⟨pv,ids.length,cv⟩:Hd)]:=⟨_,rfl⟩
          rw [<- hhs2]at hLv6
          have HHs2:=hid hhs2
          have e6:w6.cell? ⟨ob,1,none⟩=some (.slice pl hs.length cl):=by rw [cell_of_heap HOb6.out];rfl
          have f6:w6.frozen? ⟨ob,1,none⟩=false:=frozen_of_heap HOb6.out 1
          rw [<- hhs2]
          clear hOb5 hX05 hTs5 hTv5 hLv5 hRw5 hRw6 hf5 hfr5 x5 hOv hap6 hhs2
          go_wp2_with fail
          go_roundw
          case rel=>
            have hst:=setCell_chg w6 ⟨ob,1,none⟩ (.slice p6 hs2.length z6)
            have hall:∀ {v:Value} {q:List Nat},Ow w6 (R+1+1) eJ v q->Ow (w6.setCell ⟨ob,1,none⟩ (.slice p6 hs2.length z6)) (R+1+1) eJ v q:=fun h=>h.chg hst (fun q hq e=>h.ne_cells HOb6.out (by decide) (by rw [hq,e]))
            have hrel:Owns (w6.setCell ⟨ob,1,none⟩ (.slice p6 hs2.length z6)) (R+1+1) eJ hs2 ((T.take (k+1)).map (idsOf L)):=by
              revert hall
              generalize w6.setCell ⟨ob,1,none⟩ (.slice p6 hs2.length z6)=W6
              intro hall
              rw [HT1.out,<- HIx.out,HHs2.out]
              refine⟨by rw [List.length_append,List.length_append,HRn.out];rfl,fun t a b=>?_⟩
              by_cases ht:t<hs.length
              · have ht2:t<(tk.map (idsOf L)).length:=by rw [<- HRn.out];exact ht
                rw [List.getElem_append_left ht,List.getElem_append_left ht2]
                exact hall (HR6.out t ht ht2)
              · have e1:t=hs.length:=by rw [List.length_append,List.length_singleton]at a;omega
                subst e1
                rw [List.getElem_append_right (Nat.le_refl _)]
                have e2:hs.length=(tk.map (idsOf L)).length:=HRn.out
                rw [List.getElem_append_right (by rw [<- e2];exact Nat.le_refl _)]
                simp only [Nat.sub_self,e2,List.getElem_cons_zero]
                exact hall hOv6
            exact⟨k+1,_,_,hs2,by omega,by go_num,by have:=heap_setCell_own HOb6.out 1 (.slice p6 hs2.length z6);simpa using this,hst.heap HX06.out (by simp;omega),own_set_other hTs6 (by omega),by rw [HT1.out];exact own_set_other hTv6 (by omega),ne_flip hap5,own_set_other hLv6 (by omega),hrel,set_below hf6 (by have:=HRs.out;omega) hf6.size,set_below hfr6 (by have:=HOb.out;omega) hfr6.size⟩
          case measure=>simp [intOf];omega
        · obtain rfl:k=T.length:=by omega
          have hnl2:¬(T.length:Int)<T.length:=by omega
          rw [List.take_length]at hTv hRw
          have hLi:(T.map (idsOf L))=idxL L:=HLi.out.symm
          rw [hLi]at hRw
          clear hLi hap hTs
          obtain⟨pt,ct,rfl⟩:=hTv.shape'
          obtain⟨pl,cl,rfl⟩:=hLv.shape'
          have hinf:(Tryz.prog.info? 95).map (·.size)=some 2:=by kernel_rfl
          have hone:(#[Value.slice pt T.length ct,Value.slice pl hs.length cl]:Array Value).all (·.oneCell')=true:=by simp [Value.oneCell']
          go_wp2_with (first | (refine wpList_load_row rfl 95 (.tmp 8) rfl ob rfl 95 #[.slice pt T.length ct,.slice pl hs.length cl] (0,0) _ hOb Tryz.underlying95 rfl hinf ?_) | (refine wpList_store_row rfl 95 (.tmp 2) (.tmp 59) rfl R #[.slice pt T.length ct,.slice pl hs.length cl] rfl rfl 95 _ hX0 hinf rfl hone ?_))
          have hst:=setRow_chg wr R #[.slice pt T.length ct,.slice pl hs.length cl]
          have hfin:Fr w (wr.setRow R #[.slice pt T.length ct,.slice pl hs.length cl]):=Chg.below hf hst hf.size (fun k hk=>by have:=HRs.out;omega)
          have HFin:=hid hfin
          have HR1:Hid (Ow (wr.setRow R #[.slice pt T.length ct,.slice pl hs.length cl]) (ob+1) eS (.slice pt T.length ct) T):=hTv.chg hst (fun k hk e=>by have:=(hTv.lt k hk).1;omega)
          have HR2:Hid (Ow (wr.setRow R #[.slice pt T.length ct,.slice pl hs.length cl]) (ob+1) eHJ (.slice pl hs.length cl) hs):=hLv.chg hst (fun k hk e=>by have:=(hLv.lt k hk).1;omega)
          have HR3:Hid (Owns (wr.setRow R #[.slice pt T.length ct,.slice pl hs.length cl]) (R+1+1) eJ hs (idxL L)):=⟨hRw.1,fun t a b=>(hRw.2 t a b).chg hst (fun k hk e=>by have:=((hRw.2 t a b).lt k hk).1;omega)⟩
          exact bodyPost_ret (v:=.agg #[.slice pt T.length ct,.slice pl hs.length cl]) (results_cell_row Tryz.results54 _ _ R 95 #[.slice pt T.length ct,.slice pl hs.length cl] (0,0) _ rfl (setRow_heap _ R _ #[.slice pt T.length ct,.slice pl hs.length cl] _ _ hX0) Tryz.underlying95 rfl hinf) rfl
            ⟨_,_,rfl,by rw [HTd.out];exact HR1.out.see,⟨hs,HR3.out.sees2 HR2.out.see⟩,HFin.out⟩
end Go.Proofs.YtdagmoonnbnceaaGreatDoor
