/- Parts of the proof of ThreeOpens: Cz Cza Czb Czc. -/
import Derived.Test.YtijghcbpfcjjnaaGreatDoorM41
import Derived.Test.YtijghcbpfcjjnaaGreatDoorM16
import Derived.Test.YtijghcbpfcjjnaaGreatDoorM37
import Derived.Deep.RegionHeldLaw
import Derived.Test.YtijghcbpfcjjnaaGreatDoorM31
set_option linter.unusedVariables false
set_option linter.unusedSectionVars false
set_option linter.unusedSimpArgs false
set_option maxHeartbeats 8000000
namespace Go.Proofs.YtijghcbpfcjjnaaGreatDoor
open Go.RowKit Go.Fk
theorem cutB_le(c:List UInt8):(cutB c).length<=c.length:=by
 unfold cutB
 split
 · rw [List.length_take];omega
 · exact Nat.zero_le _
theorem colE_eq(n:Nat)(c:List UInt8):colE n c=if errCut c=0 then(if(colR n (cutB c)).2.2.2=0 then(if(colR n (cutB c)).2.2.1<(cutB c).length then 2 else 0)else(colR n (cutB c)).2.2.2)else errCut c:=rfl
set_option maxRecDepth 100000
theorem copen_any(g n:Nat)(hn:n<=20000)(v:Value)(c:List UInt8)(w:World)(x0 x1 x2 x3 x6 x7 x8 x9:Value)(hg:w.heap[g]?=some (.cells #[x0,x1,x2,x3,.slice none 0 0,.slice none 0 0,x6,x7,x8,x9] 67 (0,0)))
  (hs:See w eB v c) (hl:c.length<=1000000) (ht:Crc w) :
  Calls Tryz.prog 36 #[.pointer (some ⟨g,4,none⟩),N n,v] w fun e w'=>e=.returned (.int .i64 (colE n c:Int)) /\
   (colE n c=0->∃ u t,w'.heap[g]?=some (.cells #[x0,x1,x2,x3,u,t,x6,x7,x8,x9] 67 (0,0))/\Ow w' w.heap.size eQ u (colR n (cutB c)).1/\Ow w' w.heap.size eB t (colR n (cutB c)).2.1)/\Chg (fun k=>k=g) w w':=by
 have HCut:=hid (Cut_any v c w hs hl ht)
 have hql:=cutB_le c
 have HE:=hid (colE_eq n c)
 have HRd:=hid (fun W u (h:See W eB u (cutB c))=>RdCols_any n hn u (cutB c) W h (by omega))
 have hgw:g<w.heap.size:=(Array.getElem?_eq_some_iff.1 hg).1
 obtain⟨a0,cap,hv,_⟩:=hs.shape
 subst hv
 clear hs
 have hql2:(cutB c).length<=1000000:=by omega
 clear hql
 generalize colE n c=E at *
 generalize errCut c=er at *
 generalize cutB c=q at *
 generalize colR n q=R at *
 obtain⟨T,L,m,e2⟩:=R
 go_enter Tryz.func36, Tryz.ntmps36
 go_wp2_with fail
 refine(HCut.out).mono ?_
 rintro e w1 ⟨u,rfl,hO,hf⟩
 obtain⟨ua,uc,hu⟩:=hO.shape'
 subst hu
 clear HCut
 by_cases he:er=0
 · rw [if_pos he]at HE
   subst he
   have HR1:=hid (HRd.out w1 _ hO.see)
   have hg1:=hf.heap hg
   clear HRd hO hg
   go_wp2_with fail
   refine(HR1.out).mono ?_
   rintro e w2 ⟨tv,lv,rfl,hT,hL,hf2⟩
   obtain⟨ta,tc,htv⟩:=hT.shape'
   subst htv
   obtain⟨la,lc,hlv⟩:=hL.shape'
   subst hlv
   have hg2:=hf2.heap hg1
   have hf02:=hf.trans hf2
   have hT2:=hT.rebase hf.size
   have hL2:=hL.rebase hf.size
   clear HR1 hg1 hf2 hT hL
   by_cases h2:e2=0
   · rw [if_pos h2]at HE
     subst h2
     by_cases hm:m<q.length
     · rw [if_pos hm]at HE
       have i1:(m:Int)<q.length:=by omega
       clear hm
       go_wp2_with fail
       go_ret
       exact⟨by rw [HE.out];rfl,fun h=>absurd (HE.out.symm.trans h) (by decide),hf02.chg _⟩
     · rw [if_neg hm]at HE
       have i1:¬(m:Int)<q.length:=by omega
       have e4:w2.cell? ⟨g,4,none⟩=some (.slice none 0 0):=by rw [cell_of_heap hg2];rfl
       have f4:w2.frozen? ⟨g,4,none⟩=false:=frozen_of_heap hg2 4
       have hst:=setCell_chg w2 ⟨g,4,none⟩ (.slice ta T.length tc)
       have hg3:(w2.setCell ⟨g,4,none⟩ (.slice ta T.length tc)).heap[g]?=some (.cells #[x0,x1,x2,x3,.slice ta T.length tc,.slice none 0 0,x6,x7,x8,x9] 67 (0,0)):=heap_setCell_own hg2 4 (.slice ta T.length tc)
       have e5:(w2.setCell ⟨g,4,none⟩ (.slice ta T.length tc)).cell? ⟨g,5,none⟩=some (.slice none 0 0):=by rw [cell_of_heap hg3];rfl
       have f5:(w2.setCell ⟨g,4,none⟩ (.slice ta T.length tc)).frozen? ⟨g,5,none⟩=false:=frozen_of_heap hg3 5
       have hst2:=setCell_chg (w2.setCell ⟨g,4,none⟩ (.slice ta T.length tc)) ⟨g,5,none⟩ (.slice la L.length lc)
       have hg4:=heap_setCell_own hg3 5 (.slice la L.length lc)
       have hT4:=own_set_other (i:=5) (u:=.slice la L.length lc) (own_set_other (i:=4) (u:=.slice ta T.length tc) hT2 hgw) hgw
       have hL4:=own_set_other (i:=5) (u:=.slice la L.length lc) (own_set_other (i:=4) (u:=.slice ta T.length tc) hL2 hgw) hgw
       have hc4:Chg (fun k=>k=g) w ((w2.setCell ⟨g,4,none⟩ (.slice ta T.length tc)).setCell ⟨g,5,none⟩ (.slice la L.length lc)):=((hf02.chg (fun k=>k=g)).trans hst fun _ _ h=>h).trans hst2 fun _ _ h=>h
       clear hm hst hst2 hT2 hL2
       go_wp2_with fail
       go_ret
       exact⟨by rw [HE.out];rfl,fun _=>⟨_,_,hg4,hT4,hL4⟩,hc4⟩
   · rw [if_neg h2]at HE
     have i2:¬(e2:Int)=0:=by omega
     go_wp2_with fail
     go_ret
     exact⟨by rw [HE.out];rfl,fun h=>absurd (HE.out.symm.trans h) h2,hf02.chg _⟩
 · rw [if_neg he]at HE
   have i2:¬(er:Int)=0:=by omega
   go_wp2_with fail
   go_ret
   exact⟨by rw [HE.out];rfl,fun h=>absurd (HE.out.symm.trans h) he,hf.chg _⟩
set_option maxRecDepth 512
def ldFr:Op:=Op.load 31 (.tmp 21)
attribute [local go_sem] ldFr
theorem cutsL_snoc(l:List Nat)(z:Nat):∀ b:List UInt8,cutsL (l++[z]) b=cutsL l b++[(b.drop l.sum).take z]:=by
 induction l with
 | nil=>intro b;simp [cutsL]
 | cons x l ih=>intro b;rw [List.cons_append,cutsL,cutsL,ih,List.drop_drop,List.sum_cons,List.cons_append]
theorem cutsL_take(l:List Nat)(b:List UInt8)(i:Nat)(h:i<l.length):cutsL (l.take (i+1)) b=cutsL (l.take i) b++[(b.drop (l.take i).sum).take l[i]]:=by
 rw [List.take_succ_eq_append_getElem h,cutsL_snoc]
set_option maxRecDepth 100000
theorem bsplit_any (g p base : Nat) (v : Value) (b : List UInt8) (zs : List Nat) (w0 w : World) (x0 x3 x4 x5 x6 x7 x9 sv : Value) (hg : w.heap[g]? = some (.cells #[x0, sv, N p, x3, x4, x5, x6, x7, .slice none 0 0, x9] 67 (0, 0)))
    (hz:Ow w base eJ sv zs) (hs:See w0 eB v b) (h0:Fr w0 w) (hg0:w0.heap.size<=g) (hgb:g<base) (hl:b.length<=1000000) (hr:zs.sum+p<=b.length) (hzl:zs.length<=20000) :
    Calls Tryz.prog 35 #[.pointer (some ⟨g,0,none⟩),v] w fun e w'=>∃ cv iv,e=.returned (.tuple #[cv,iv])/\See w0 eB cv ((b.drop zs.sum).take p)/\See w0 eB iv ((b.drop zs.sum).drop p) /\
      (∃ fv ps,w'.heap[g]?=some (.cells #[x0,sv,N p,x3,x4,x5,x6,x7,fv,x9] 67 (0,0))/\Ow w' w.heap.size eHB fv ps/\Owns w' w.heap.size eB ps (cutsL zs b))/\Chg (fun k=>k=g) w w':=by
  have hgw:g<w.heap.size:=(Array.getElem?_eq_some_iff.1 hg).1
  have HTk:=hid (groups_sum_le zs)
  have HSn:=hid (sum_snoc zs)
  have HAl:Hid ((zs.take zs.length).sum=zs.sum):=by show _=_;rw [List.take_length]
  have HCt:=hid (cutsL_take zs b)
  have HCe:Hid (cutsL (zs.take zs.length) b=cutsL zs b):=by show _=_;rw [List.take_length]
  have HCl:=hid (fun v q W hs (hq:q.length<=1000000)=>BClone_any v q W hs hq)
  obtain⟨za,zc,hzv⟩:=hz.shape'
  subst hzv
  have c1:w.cell? ⟨g,1,none⟩=some (.slice za zs.length zc):=by rw [cell_of_heap hg];rfl
  obtain⟨a0,cap,hv,_⟩:=hs.shape
  subst hv
  have hd0:See w0 eB (.slice a0 b.length cap) (b.drop 0):=hs
  clear hs
  go_enter Tryz.func35, Tryz.ntmps35
  go_wp2_with fail
  go_loopw [1,14] (fun bv iv wr=>∃ (i a:Nat) (q:Option Addr) (c:Nat) (ps:List Hd),i<=zs.length/\iv=N i/\Hid (a=(zs.take i).sum)/\a<=zs.sum/\bv=.slice q (b.length - a) c/\See w0 eB (.slice q (b.length - a) c) (b.drop a)/\ps.length=i/\(∃ fv,wr.heap[g]?=some (.cells #[x0,.slice za zs.length zc,N p,x3,x4,x5,x6,x7,fv,x9] 67 (0,0))/\Ow wr w.heap.size eHB fv ps)/\Owns wr w.heap.size eB ps (cutsL (zs.take i) b)/\Chg (fun k=>k=g\/w.heap.size<=k) w wr/\w.heap.size<=wr.heap.size) (fun _ iv _=>zs.length - (intOf iv).toNat)
  case atStart=>exact⟨0,0,a0,cap,[],Nat.zero_le _,rfl,rfl,Nat.zero_le _,rfl,hd0,rfl,⟨_,hg,Ow.nil⟩,⟨rfl,fun t h=>by simp at h⟩,(Fr.refl w).chg _,Nat.le_refl _⟩
  case round=>
    clear hd0 c1
    obtain⟨i,a,q,c,ps,hi,rfl,HA,ha,rfl,hd,hpl,⟨fv,hG,hF⟩,hO,hch,hzz⟩:=hrel
    have hf0:Fr w0 wr:=((h0.chg (fun k=>k=g\/w.heap.size<=k)).trans hch fun _ _ h=>h).fr (fun k hk e=>by have:=h0.size;have e:k=g\/w.heap.size<=k:=e;omega)
    have hz2 := hz.chg hch (fun k hk e => by
      have h1 := hz.lt k hk
      have h2 := hz.ne_cells hg (by decide)
      rcases e with e | e
      · exact h2 (by rw [hk, e])
      · omega)
    by_cases hlt:i<zs.length
    · have i1:(i:Int)<zs.length:=by omega
      have i2:(0:Int)<=i:=by omega
      obtain⟨b5,o5,p5,hv5,e5⟩:=hz2.see.cell1 N rfl i hlt
      cases hv5
      have e6:wr.cell? ⟨b5,o5+i,none⟩=some (N zs[i]):=e5
      have hn1:=HTk.out (i+1)
      rw [HSn.out i hlt,<- HA.out]at hn1
      have HA2:Hid (a+zs[i]=(zs.take (i+1)).sum):=by show _=_;rw [HSn.out i hlt,<- HA.out]
      have HC2:Hid (cutsL (zs.take (i+1)) b=cutsL (zs.take i) b++[(b.drop a).take zs[i]]):=by show _=_;rw [HCt.out i hlt,<- HA.out]
      clear e5
      generalize zs[i]=z at *
      have hdl:(b.drop a).length=b.length - a:=List.length_drop ..
      have hzd:z<=(b.drop a).length:=by omega
      obtain⟨htr,hts⟩:=run_to eB 22 Tryz.underlying22 hd z hzd
      obtain⟨p2,c2,hfrm,hfs⟩:=run_from eB 22 Tryz.underlying22 hd z hzd
      have hlen2:(b.drop a).length - z=b.length - (a+z):=by omega
      rw [hlen2,List.drop_drop]at hfs
      rw [hlen2]at hfrm
      have HCl1:=hid (HCl.out _ ((b.drop a).take z) wr.drew (hts.fr hf0.drew) (by rw [List.length_take];omega))
      have hql:((b.drop a).take z).length=z:=by rw [List.length_take];omega
      have HFs:=hid hfs
      have HPl:=hid hpl
      have HC1:Hid (ps.length+[(⟨none,0,0⟩:Hd)].length<=2147483648):=by show _<=_;simp;omega
      obtain⟨fa,fc,hfv⟩:=hF.shape'
      subst hfv
      have c8:wr.cell? ⟨g,8,none⟩=some (.slice fa ps.length fc):=by rw [cell_of_heap hG];rfl
      have HQl:=hid hql
      clear hd hdl hzd hts hfs hlen2 hpl hql
      generalize (b.drop a).take z=fr at *
      go_upto_region 4 with fail
      go_cut []from 18 to 30 (fun wx=>∃ ps':List Hd,ps'.length=i+1/\(∃ fv,wx.heap[g]?=some (.cells #[x0,.slice (some ⟨b5,o5,none⟩) zs.length zc,N p,x3,x4,x5,x6,x7,fv,x9] 67 (0,0))/\Ow wx w.heap.size eHB fv ps')/\Owns wx w.heap.size eB ps' (cutsL (zs.take i) b++[fr])/\Chg (fun k=>k=g\/w.heap.size<=k) w wx/\w.heap.size<=wx.heap.size)
      case first=>
        rw [show Op.load 31 (.tmp 21)=ldFr from rfl]
        go_region_held_law (fun _ => True) (first | trivial | go_keep) (((first
          | (go_at_call 76; refine (HCl1.out).mono ?_; rintro e w6 ⟨u6, rfl, hU6, hf6⟩
             obtain ⟨ua, uc, hu6⟩ := hU6.shape'
             subst hu6
             have hG6 := hf6.heap (show wr.drew.heap[g]? = _ from hG)
             have hF6 := hF.drew.fr hf6
             have hz6 : w.heap.size ≤ w6.heap.size := Nat.le_trans hzz hf6.size
             have hUb := hU6.rebase (show w.heap.size ≤ _ from hzz)
             have d0 : w6.cell? ⟨g, 8, none⟩ = some (.slice fa ps.length fc) := by rw [cell_of_heap hG6]; rfl
             have d1 := ((Fr.refl w6).alloc (.cells #[.slice ua fr.length uc] 22)).cell d0)
          | (refine step_app1 eHB rfl (.tmp 22) (.tmp 27) 31 rfl Tryz.underlying31 w.heap.size rfl hF6 [⟨ua, fr.length, uc⟩] _ _ _ rfl rfl rfl HC1.out hz6 ?_
             intro v' w7 hap
             have own7 := hap.own
             obtain ⟨va, vc, hv'⟩ := own7.shape'
             rw [show (ps ++ [(⟨ua, fr.length, uc⟩ : Hd)]).length = ps.length + 1 from by simp] at hv'
             subst hv'
             have hG7 := hap.chg'.heap hG6 (fun e => by have := (hF6.lt _ e).1; omega)
             have e3 : w7.cell? ⟨g, 8, none⟩ = some (.slice fa ps.length fc) := by rw [cell_of_heap hG7]; rfl
             have e4 : w7.frozen? ⟨g, 8, none⟩ = false := frozen_of_heap hG7 8))))
        all_goals go_wp2_with fail
        all_goals go_meet
        all_goals
          have hR7:=(((hO.fr ((Fr.refl wr).drew.trans hf6)).app hF6 hap (by decide)).snoc (x:=⟨ua,fr.length,uc⟩) (own_app hUb hF6 hap (by decide)))
          refine⟨ps++[⟨ua,fr.length,uc⟩],by rw [List.length_append,HPl.out];rfl,⟨_,heap_setCell_own hG7 8 _,own_set_other (i:=8) hap.own hgw⟩,⟨hR7.1,fun t h1 h2=>own_set_other (i:=8) (hR7.2 t h1 h2) hgw⟩,((hch.trans (((Fr.refl wr).drew.trans hf6).chg (fun k=>k=g\/w.heap.size<=k)) fun _ _ h=>h).trans hap.chg' fun k _ e=>.inr (hF6.lt k e).1).trans (setCell_chg w7 ⟨g,8,none⟩ _) fun k _ e=>.inl e,Nat.le_trans (Nat.le_trans hz6 hap.size) (setCell_chg w7 ⟨g,8,none⟩ _).size⟩
      case rest=>
        obtain⟨ps',hpl',hGF,hO',hch',hzz'⟩:=hcut
        rw [<- HC2.out]at hO'
        have HPl':=hid hpl'
        clear hpl' hG hF hO hch hzz hz2 c8 HCl1 hf0
        go_wp2_with fail
        go_roundw
        case rel=>exact⟨i+1,a+z,p2,c2,ps',by omega,by go_num,HA2.out,hn1,rfl,HFs.out,HPl'.out,hGF,hO',hch',hzz'⟩
        case measure=>simp [intOf];omega
    · obtain rfl:i=zs.length:=by omega
      have i1:¬(zs.length:Int)<zs.length:=by omega
      have hae:a=zs.sum:=HA.out.trans HAl.out
      rw [HCe.out]at hO
      subst hae
      have hdl:(b.drop zs.sum).length=b.length - zs.sum:=List.length_drop ..
      have hpd:p<=(b.drop zs.sum).length:=by omega
      obtain⟨htr,hts⟩:=run_to eB 22 Tryz.underlying22 hd p hpd
      obtain⟨p2,c2,hfrm,hfs⟩:=run_from eB 22 Tryz.underlying22 hd p hpd
      have c2':wr.cell? ⟨g,2,none⟩=some (N p):=by rw [cell_of_heap hG];rfl
      have HTs:=hid hts
      have HFs:=hid hfs
      have hC9:Chg (fun k=>k=g) w wr:=hch.mono (G':=fun k=>k=g) fun k hk h=>by have h:k=g\/w.heap.size<=k:=h;show k=g;omega
      clear hd hdl hpd hts hfs HA ha hch
      generalize (b.drop zs.sum).length - p=mm at *
      generalize b.length - zs.sum=m1 at *
      go_upto_region 7 with fail
      go_quiet (fail)
      go_wp2_with fail
      go_ret2
      refine⟨_,_,rfl,?_,?_,?_,?_⟩
      · exact HTs.out
      · first | exact HFs.out | (have h:=HFs.out;rw [List.drop_drop]at h;exact h)
      · exact⟨fv,(Fr.drewN (Fr.refl wr) _).heap hG,ps,hF.fr (Fr.drewN (Fr.refl wr) _),hO.fr (Fr.drewN (Fr.refl wr) _)⟩
      · exact hC9.trans (drew_chg (fun k=>k=g) wr _) fun _ _ h=>h
set_option maxRecDepth 512
theorem results_cellI{P:Program}{fn:Func}{p:Tmp}{ty:TypeId}(h:fn.results=#[.cell p ty])(tmps:Array Value)(w:World)(g:Nat)(t:TypeId)(cs:Array Value)(fr:Nat × Nat)(d:TypeDesc)
  (hp:tmps.getD p undef=.pointer (some ⟨g,0,none⟩)) (hg:w.heap[g]?=some (.cells cs t fr))
  (hu:P.underlying ty=some d) (hd:(match d with | .struct _ | .array _ _=>true | _=>false)=true) (hi:(P.info? ty).map (·.size)=some cs.size) :
  (results fn tmps).run P w=.ok (.agg cs) w:=by
 have hp':tmps[p]?.getD undef=.pointer (some ⟨g,0,none⟩):=by simpa using hp
 simp [results,h,hp',asAddr,run_loadVar_row w g t ty cs fr d hg hu hd hi]
set_option maxRecDepth 100000
theorem BdLen_any(g:Nat)(cs:List Nat)(w:World)(x0 x1 x2 x3 x4 x5 x6 x7 x8 x9:Value)(hg:w.heap[g]?=some (.cells #[x0,x1,x2,x3,x4,x5,x6,x7,x8,x9] 67 (0,0)))
  (hs:See w eJ x0 cs) (hl:cs.length<=1000000) (hb:cs.sum<=1000000000000000) :
  Calls Tryz.prog 37 #[.pointer (some ⟨g,0,none⟩)] w fun e w'=>e=.returned (N cs.sum)/\w=w':=by
 have HS:=hid (bsumW_any x0 cs w hs hl hb)
 obtain⟨a0,cap,hv,_⟩:=hs.shape
 subst hv
 have c0:w.cell? ⟨g,0,none⟩=some (.slice a0 cs.length cap):=by rw [cell_of_heap hg];rfl
 clear hs hg
 go_enter Tryz.func37, Tryz.ntmps37
 go_wp2_with fail
 refine(HS.out).mono ?_
 rintro e w1 ⟨rfl,rfl⟩
 go_wp2_with fail
 go_ret
 exact⟨rfl,rfl⟩
theorem BdBlocks_any(g:Nat)(cs:List Nat)(w:World)(x0 x1 x2 x3 x4 x5 x6 x7 x8 x9:Value)(hg:w.heap[g]?=some (.cells #[x0,x1,x2,x3,x4,x5,x6,x7,x8,x9] 67 (0,0)))
  (hs:See w eJ x0 cs) (hl:cs.length<=1000000) :
  Calls Tryz.prog 8 #[.pointer (some ⟨g,0,none⟩)] w fun e w'=>∃ v,e=.returned v/\Ow w' w.heap.size eJ v cs/\Fr w w':=by
 have HS:=hid (JClone_any x0 cs w hs (by omega))
 obtain⟨a0,cap,hv,_⟩:=hs.shape
 subst hv
 have c0:w.cell? ⟨g,0,none⟩=some (.slice a0 cs.length cap):=by rw [cell_of_heap hg];rfl
 clear hs hg
 go_enter Tryz.func8, Tryz.ntmps8
 go_wp2_with fail
 refine(HS.out).mono ?_
 rintro e w1 ⟨u,rfl,hO,hf⟩
 obtain⟨ua,uc,hu⟩:=hO.shape'
 subst hu
 go_wp2_with fail
 go_ret
 exact⟨_,rfl,hO,hf⟩
theorem BdBlocks_nil(w:World):Calls Tryz.prog 8 #[.pointer none] w fun e w'=>e=.returned (.slice none 0 0)/\w=w':=by
 go_enter Tryz.func8, Tryz.ntmps8
 go_wp2_with fail
 go_ret
 exact⟨rfl,rfl⟩
theorem BdIndex_nil(w:World):Calls Tryz.prog 10 #[.pointer none] w fun e w'=>e=.returned (.agg idxZ)/\Fr w w':=by
 have hinf:(Tryz.prog.info? 36).map (·.size)=some idxZ.size:=by kernel_rfl
 have hone:idxZ.all (·.oneCell')=true:=by rw [List.all_toArray];rfl
 have hR0:(w.alloc (.cells idxZ 36)).heap[w.heap.size]?=some (.cells idxZ 36 (0,0)):=heap_new _ _ _ rfl
 have hf0:Fr w (w.alloc (.cells idxZ 36)):=(Fr.refl w).alloc _
 generalize hW0:w.alloc (.cells idxZ 36)=W0 at *
 go_enter Tryz.func10, Tryz.ntmps10
 go_wp2_with (first | (refine wpList_store_row rfl 36 (.tmp 2) (.tmp 8) rfl w.heap.size idxZ rfl rfl 36 _ (by first | exact hR0 | (rw [hW0];exact hR0)) hinf rfl hone ?_))
 go_wp2_with fail
 (try simp only [Exit.inBlock,Exit.then])
 have hG:=setRow_heap W0 w.heap.size idxZ idxZ 36 (0,0) hR0
 have hff:Fr w (W0.setRow w.heap.size idxZ):=Chg.below hf0 (setRow_chg _ _ _) hf0.size (fun k hk=>by omega)
 exact bodyPost_ret (v:=.agg idxZ) (results_cellI Tryz.results10 _ _ w.heap.size 36 _ (0,0) _ rfl hG Tryz.underlying36 rfl hinf) rfl ⟨rfl,hff⟩
set_option maxRecDepth 512
def ldIx:Op:=Op.load 34 (.tmp 26)
attribute [local go_sem] ldIx
set_option maxRecDepth 100000
theorem BdIndex_any (g : Nat) (ts : List (List UInt8)) (ls : List (List Nat)) (ps : List Hd) (base : Nat) (w : World) (x0 x1 x2 x3 x4 x5 x6 x7 x8 x9 : Value) (hg : w.heap[g]? = some (.cells #[x0, x1, x2, x3, x4, x5, x6, x7, x8, x9] 67 (0, 0)))
    (hT:See w eS x6 ts) (hP:See w eHi x7 ps) (hL:Owns w base eJ ps ls) (htl:ts.length<=100000000) (hpl:ps.length<=100000000) (hll:∀ x∈ls,x.length<=100000000) :
    Calls Tryz.prog 10 #[.pointer (some ⟨g,0,none⟩)] w fun e w'=>∃ tv lv,e=.returned (.agg #[tv,lv])/\Ow w' w.heap.size eS tv ts/\(∃ qs,Ow w' w.heap.size eHi lv qs/\Owns w' w.heap.size eJ qs ls)/\Fr w w':=by
  have hinf:(Tryz.prog.info? 36).map (·.size)=some idxZ.size:=by kernel_rfl
  have hR0:(w.alloc (.cells idxZ 36)).heap[w.heap.size]?=some (.cells idxZ 36 (0,0)):=heap_new _ _ _ rfl
  have hf0:Fr w (w.alloc (.cells idxZ 36)):=(Fr.refl w).alloc _
  have hz0:w.heap.size+1<=(w.alloc (.cells idxZ 36)).heap.size:=by simp
  have HSC:=hid (fun W (h:Fr w W)=>SClone_any x6 ts W (hT.fr h) htl)
  have HJC:=hid (fun W v q (h:See W eJ v q) (hq:q.length<=100000000)=>JClone_any v q W h hq)
  have HP:=hid hP
  have HL:=hid hL
  have HLl:=hid hll
  obtain⟨ta,tc,hv,_⟩:=hT.shape
  subst hv
  obtain⟨pa,pc,hv,_⟩:=hP.shape
  subst hv
  clear hT hP hL hll
  have c6:=hf0.cell (show w.cell? ⟨g,6,none⟩=some (.slice ta ts.length tc) by rw [cell_of_heap hg];rfl)
  have hg0:=hf0.heap hg
  generalize hW0:w.alloc (.cells idxZ 36)=W0 at *
  have HS0:=hid (HSC.out W0 hf0)
  go_enter Tryz.func10, Tryz.ntmps10
  go_upto_region 3 with fail
  go_wp2_with fail
  refine(HS0.out).mono ?_
  rintro e w1 ⟨tv,rfl,hT1,hf1⟩
  obtain⟨va,vc,htv⟩:=hT1.shape'
  subst htv
  have hL1:(w1.alloc (.cells idxZ 36)).heap[w1.heap.size]?=some (.cells idxZ 36 (0,0)):=heap_new _ _ _ rfl
  have hfL:Fr w1 (w1.alloc (.cells idxZ 36)):=(Fr.refl w1).alloc _
  have hzL:w1.heap.size+1<=(w1.alloc (.cells idxZ 36)).heap.size:=by simp
  have hone1:(#[Value.slice va ts.length vc,.slice none 0 0]:Array Value).all (·.oneCell')=true:=by rw [List.all_toArray];rfl
  have hG2:=setRow_heap (w1.alloc (.cells idxZ 36)) w1.heap.size idxZ #[.slice va ts.length vc,.slice none 0 0] 36 (0,0) hL1
  have hst2:=setRow_chg (w1.alloc (.cells idxZ 36)) w1.heap.size #[.slice va ts.length vc,.slice none 0 0]
  have hf12:Fr w1 ((w1.alloc (.cells idxZ 36)).setRow w1.heap.size #[.slice va ts.length vc,.slice none 0 0]):=Chg.below hfL hst2 hfL.size (fun k hk=>by have e:k=w1.heap.size:=hk;omega)
  have hz2:w1.heap.size+1<=((w1.alloc (.cells idxZ 36)).setRow w1.heap.size #[.slice va ts.length vc,.slice none 0 0]).heap.size:=Nat.le_trans hzL hst2.size
  have hf02:=(hf0.trans hf1).trans hf12
  have hT2:=(hT1.fr hf12).rebase hf0.size
  have hTb:∀ k,(Value.slice va ts.length vc).ownBlock=some k->k<w1.heap.size:=fun k hk=>(hT1.lt k hk).2
  have hR2:=(hf1.trans hf12).heap hR0
  have hgL:w.heap.size+1<=w1.heap.size:=Nat.le_trans hz0 hf1.size
  have hg2:=(hf1.trans hf12).heap hg0
  have c7:((w1.alloc (.cells idxZ 36)).setRow w1.heap.size #[.slice va ts.length vc,.slice none 0 0]).cell? ⟨g,7,none⟩=some (.slice pa ps.length pc):=by rw [cell_of_heap hg2];rfl
  go_wp2_with (first | (refine wpList_store_row rfl 36 (.tmp 3) (.tmp 15) rfl w1.heap.size #[.slice va ts.length vc,.slice none 0 0] rfl rfl 36 _ hL1 hinf rfl hone1 ?_))
  go_wp2_with fail
  generalize (w1.alloc (.cells idxZ 36)).setRow w1.heap.size #[.slice va ts.length vc,.slice none 0 0]=w2 at *
  generalize hLe:w1.heap.size=L at *
  clear hL1 hfL hzL hst2 hT1 hf1 hf12 hR0 hg0 c6 HS0 HSC hg2 hf0 hz0 hg c7
  go_loopw [22] (fun iv wr=>∃ (i:Nat) (lv:Value) (qs:List Hd),i<=ps.length/\iv=N i/\wr.heap[L]?=some (.cells #[.slice va ts.length vc,lv] 36 (0,0))/\Ow wr (L+1) eHi lv qs/\Owns wr (L+1) eJ qs (ls.take i)/\Hid (qs.length=i)/\Chg (fun k=>k=L\/L+1<=k) w2 wr/\L+1<=wr.heap.size) (fun iv _=>ps.length - (intOf iv).toNat)
  case atStart=>exact⟨0,_,[],Nat.zero_le _,rfl,hG2,Ow.nil,⟨rfl,fun t h=>by simp at h⟩,rfl,(Fr.refl w2).chg _,hz2⟩
  case round=>
    clear hG2 hz2
    obtain⟨i,lv,qs,hi,rfl,hG,hO,hR,HQl,hch,hz⟩:=hrel
    have hf:Fr w wr:=((hf02.chg (fun k=>k=L\/L+1<=k)).trans hch fun _ _ h=>h).fr (fun k hk e=>by have e:k=L\/L+1<=k:=e;omega)
    obtain⟨la,lc,hlv⟩:=hO.shape'
    rw [HQl.out]at hlv
    subst hlv
    have HPe:Hid (ps.length=ls.length):=HL.out.1
    by_cases hlt:i<ps.length
    · obtain⟨b5,o5,p5,hv5,e5⟩:=(HP.out.fr hf).cell1 (fun h:Hd=>h.v) rfl i hlt
      cases hv5
      have e6:wr.cell? ⟨b5,o5+i,none⟩=some (ps[i].v):=e5
      have i1:(i:Int)<ps.length:=by omega
      have i2:(0:Int)<=i:=by omega
      have hli:i<ls.length:=by have:=HPe.out;omega
      have HJ:=hid (HJC.out wr.drew ps[i].v ls[i] (((HL.out.2 i hlt hli).see).fr hf.drew) (HLl.out _ (List.getElem_mem hli)))
      have HTk:Hid (ls.take (i+1)=ls.take i++[ls[i]]):=List.take_succ_eq_append_getElem hli
      have HC1:Hid (qs.length+[(⟨none,0,0⟩:Hd)].length<=2147483648):=by have:=HQl.out;show _<=_;simp;omega
      have c1:wr.cell? ⟨L,1,none⟩=some (.slice la i lc):=by rw [cell_of_heap hG];rfl
      clear e5
      generalize ls[i]=q at *
      obtain⟨pv,hpv⟩:∃ pv,pv=ps[i].v:=⟨_,rfl⟩
      rw [<- hpv]at e6 HJ
      clear hpv
      rw [show Op.load 34 (.tmp 26)=ldIx from rfl]
      go_upto_region 7 with fail
      go_region_held_law (fun _ => True) (first | trivial | go_keep) (((first
        | (go_at_call 18; refine (HJ.out).mono ?_; rintro e w6 ⟨u6, rfl, hU6, hf6⟩
           obtain ⟨ua, uc, hu6⟩ := hU6.shape'
           subst hu6
           have hG6 := hf6.heap (show wr.drew.heap[L]? = _ from hG)
           have hO6 := hO.drew.fr hf6
           have hz6 : L + 1 ≤ w6.heap.size := Nat.le_trans hz hf6.size
           have hUb := hU6.rebase (show L + 1 ≤ _ from hz)
           have d0 : w6.cell? ⟨L, 1, none⟩ = some (.slice la i lc) := by rw [cell_of_heap hG6]; rfl
           have d1 := ((Fr.refl w6).alloc (.cells #[.slice ua q.length uc] 30)).cell d0)
        | (refine step_app1 eHi rfl (.tmp 27) (.tmp 30) 34 rfl Tryz.underlying34 (L + 1) rfl hO6 [⟨ua, q.length, uc⟩] _ _ _ rfl rfl rfl HC1.out hz6 ?_
           intro v' w7 hap
           have own7 := hap.own
           obtain ⟨va7, vc7, hv'⟩ := own7.shape'
           rw [show (qs ++ [(⟨ua, q.length, uc⟩ : Hd)]).length = i + 1 from by rw [List.length_append, HQl.out]; rfl] at hv'
           subst hv'
           have hG7 := hap.chg'.heap hG6 (fun e => by have := (hO6.lt _ e).1; omega)
           have e3 : w7.cell? ⟨L, 1, none⟩ = some (.slice la i lc) := by rw [cell_of_heap hG7]; rfl
           have e4 : w7.frozen? ⟨L, 1, none⟩ = false := frozen_of_heap hG7 1))))
      all_goals go_wp2_with fail
      all_goals go_roundw
      all_goals first
        | (simp [intOf];omega)
        | (have hR7 := (((hR.fr ((Fr.refl wr).drew.trans hf6)).app hO6 hap (by decide)).snoc (x := ⟨ua, q.length, uc⟩) (own_app hUb hO6 hap (by decide)))
           rw [← HTk.out] at hR7
           exact ⟨i + 1, _, qs ++ [⟨ua, q.length, uc⟩], by omega, by go_num, heap_setCell_own hG7 1 _, own_set_other (i := 1) hap.own (Nat.lt_succ_self L), ⟨hR7.1, fun t h1 h2 => own_set_other (i := 1) (hR7.2 t h1 h2) (Nat.lt_succ_self L)⟩, by show (_ : Nat) = _; rw [List.length_append, HQl.out]; rfl, ((hch.trans (((Fr.refl wr).drew.trans hf6).chg (fun k => k = L ∨ L + 1 ≤ k)) fun _ _ h => h).trans hap.chg' fun k _ e => .inr (hO6.lt k e).1).trans (setCell_chg w7 ⟨L, 1, none⟩ _) fun k _ e => .inl e, Nat.le_trans (Nat.le_trans hz6 hap.size) (setCell_chg w7 ⟨L, 1, none⟩ _).size⟩)
    · obtain rfl:i=ps.length:=by omega
      have i1:¬(ps.length:Int)<ps.length:=by omega
      have hRr:=hch.heap hR2 (fun e=>by have e:w.heap.size=L\/L+1<=w.heap.size:=e;omega)
      rw [List.take_of_length_le (by have:=HPe.out;omega)]at hR
      have hTr:=hT2.chg hch (fun k hk e=>by have:=hTb k hk;have e:k=L\/L+1<=k:=e;omega)
      have hone2:(#[Value.slice va ts.length vc,.slice la ps.length lc]:Array Value).all (·.oneCell')=true:=by rw [List.all_toArray];rfl
      have hinf2:(Tryz.prog.info? 36).map (·.size)=some (#[Value.slice va ts.length vc,.slice la ps.length lc]:Array Value).size:=by kernel_rfl
      have hGr:=setRow_heap wr w.heap.size idxZ #[.slice va ts.length vc,.slice la ps.length lc] 36 (0,0) hRr
      have hstr:=setRow_chg wr w.heap.size #[.slice va ts.length vc,.slice la ps.length lc]
      have hff:Fr w (wr.setRow w.heap.size #[.slice va ts.length vc,.slice la ps.length lc]):=Chg.below hf hstr hf.size (fun k hk=>by omega)
      have hTs:=hTr.chg hstr (fun k hk e=>hTr.ne_cells hRr (by decide) (by rw [hk,show k=w.heap.size from e]))
      have hOb:=hO.rebase (show w.heap.size<=L+1 by omega)
      have hRb:=hR.rebase (show w.heap.size<=L+1 by omega)
      have hOs:=hOb.chg hstr (fun k hk e=>hOb.ne_cells hRr (by decide) (by rw [hk,show k=w.heap.size from e]))
      have hRs:Owns (wr.setRow w.heap.size #[.slice va ts.length vc,.slice la ps.length lc]) w.heap.size eJ qs ls:=⟨hRb.1,fun t h1 h2=>(hRb.2 t h1 h2).chg hstr (fun k hk e=>(hRb.2 t h1 h2).ne_cells hRr (by decide) (by rw [hk,show k=w.heap.size from e]))⟩
      clear hTr hOb hRb hO hR hstr hch
      go_wp2_with (first | (refine wpList_load_row rfl 36 (.tmp 3) rfl L rfl 36 #[.slice va ts.length vc,.slice la ps.length lc] (0,0) _ hG Tryz.underlying36 rfl hinf2 ?_) | (refine wpList_store_row rfl 36 (.tmp 2) (.tmp 34) rfl w.heap.size #[.slice va ts.length vc,.slice la ps.length lc] rfl rfl 36 _ hRr hinf rfl hone2 ?_))
      go_wp2_with fail
      (try simp only [Exit.inBlock,Exit.then])
      refine bodyPost_ret (v:=.agg #[.slice va ts.length vc,.slice la ps.length lc]) (results_cellI Tryz.results10 _ _ w.heap.size 36 _ (0,0) _ rfl hGr Tryz.underlying36 rfl hinf2) rfl ?_
      exact⟨_,_,rfl,hTs,⟨qs,hOs,hRs⟩,hff⟩
set_option maxRecDepth 512
def opEE(o:Opt)(b:List UInt8):Nat:=if opt2 o then opE o.bu.toNat b else 9
structure BodF (w:World) (g base:Nat) (B:Bod):Prop where
 h : ∃ cv sv tv lv xv yv fv av, w.heap[g]? = some (.cells #[cv, sv, N B.cols, N B.index, tv, lv, xv, yv, fv, av] 67 (0, 0)) ∧ Ow w base eJ cv B.counts ∧ Ow w base eJ sv B.sizes ∧ Ow w base eQ tv B.times ∧ Ow w base eB lv B.levels ∧ Ow w base eS xv B.terms ∧
  (∃ qs,Ow w base eHi yv qs/\Owns w base eJ qs B.lists)/\(∃ ps,Ow w base eHB fv ps/\Owns w base eB ps B.frames)
 ge:base<=g
theorem opE_eq(bu:Nat)(b:List UInt8):opE bu b=if ftE b=0 then
  (if dirE (bdDir b) (bdRest b).length = 0 then
   (if colE (dirN (bdDir b)).1 (bdCol b) = 0 then
    (if errCut (bdIdx b) = 0 then (postR bu (dirN (bdDir b)).1 (cutB (bdIdx b))).2.2 else errCut (bdIdx b))
    else colE (dirN (bdDir b)).1 (bdCol b))
   else dirE (bdDir b) (bdRest b).length)
 else ftE b:=rfl
theorem dirE_ok(b:List UInt8)(room:Nat)(h:dirE b room=0):(dirG b).1.sum=(dirN b).1/\(dirG b).2.1.sum+(dirP b).1+(dirQ b).1=room:=by
 rw [dirE_eq]at h
 split at h
 · split at h
   · cases h
   · rename_i h2
     refine⟨Classical.byContradiction fun e=>h2 (.inr (.inl e)),Classical.byContradiction fun e=>h2 (.inr (.inr e))⟩
 · rename_i h2;exact absurd h h2
theorem bd_lens(b:List UInt8):(bdRest b).length<=b.length/\(bdDir b).length<=b.length:=by
 refine⟨by unfold bdRest;rw [List.length_take];omega,Nat.le_trans (cutB_le _) ?_⟩
 unfold ftD
 rw [List.length_drop,List.length_take]
 omega
theorem cutsL_len(l:List Nat):∀ b:List UInt8,(cutsL l b).length=l.length:=by
 induction l with
 | nil=>intro b;rfl
 | cons z l ih=>intro b;rw [cutsL,List.length_cons,List.length_cons,ih]
set_option maxRecDepth 100000
theorem bopen_any (o : Opt) (v : Value) (b : List UInt8) (w : World) (hs : See w eB v b) (hl : b.length ≤ 1000000) (ht : Crc w) :
    Calls Tryz.prog 15 #[optV o,v] w fun e w'=>∃ pv,e=.returned (.tuple #[pv,.int .i64 (opEE o b:Int)])/\(opEE o b=0->∃ g,pv=.pointer (some ⟨g,0,none⟩)/\BodF w' g w.heap.size (opB o.bu.toNat b))/\(¬opEE o b=0->pv=.pointer none)/\Fr w w':=by
  have HC:=hid (fun W=>bcheck_any o W)
  obtain⟨a0,cap,hv,_⟩:=hs.shape
  subst hv
  obtain⟨ob,opl,obu,od,opp,occ⟩:=o
  have HC:Hid (∀ W,Calls Tryz.prog 32 #[.agg #[.int .i64 ob,.bool opl,.int .i64 obu,.int .i64 od,.int .i64 opp,.int .i64 occ]] W fun e w'=>e=.returned (.int .i64 (if opt2 ⟨ob,opl,obu,od,opp,occ⟩then 0 else 9))/\Fr W w'):=HC.out
  show Calls Tryz.prog 15 #[.agg #[.int .i64 ob,.bool opl,.int .i64 obu,.int .i64 od,.int .i64 opp,.int .i64 occ],.slice a0 b.length cap] w _
  show Calls _ _ _ _ fun e w'=>∃ pv,e=.returned (.tuple #[pv,.int .i64 (opEE ⟨ob,opl,obu,od,opp,occ⟩ b:Int)])/\(opEE ⟨ob,opl,obu,od,opp,occ⟩ b=0->∃ g,pv=.pointer (some ⟨g,0,none⟩)/\BodF w' g w.heap.size (opB obu.toNat b))/\(¬opEE ⟨ob,opl,obu,od,opp,occ⟩ b=0->pv=.pointer none)/\Fr w w'
  have hfO:Fr w (w.alloc (.cells #[.int .i64 ob,.bool opl,.int .i64 obu,.int .i64 od,.int .i64 opp,.int .i64 occ] 25)):=(Fr.refl w).alloc _
  have hO0:=heap_new w (.cells #[.int .i64 ob,.bool opl,.int .i64 obu,.int .i64 od,.int .i64 opp,.int .i64 occ] 25) w.heap.size rfl
  cases ho:opt2 ⟨ob,opl,obu,od,opp,occ⟩with
  | false=>
    have HE:Hid (opEE ⟨ob,opl,obu,od,opp,occ⟩ b=9):=by show _=_;unfold opEE;rw [ho];rfl
    rw [ho]at HC
    rw [HE.out]
    clear hO0
    go_enter Tryz.func15, Tryz.ntmps15
    go_wp2_with fail
    refine(HC.out _).mono ?_
    rintro e w1 ⟨rfl,hf1⟩
    have hff:=hfO.trans hf1
    clear HC hfO
    go_wp2_with fail
    go_ret2
    exact⟨_,rfl,fun h=>absurd h (by decide),fun _=>rfl,hff⟩
  | true=>
    have hE:opEE ⟨ob,opl,obu,od,opp,occ⟩ b=opE obu.toNat b:=by unfold opEE;rw [ho];rfl
    rw [ho]at HC
    obtain⟨_,_,hbu1,hbu2⟩:=(opt2_iff _).1 ho
    have hbu1:1<=obu:=hbu1
    have hbu2:obu<=64:=hbu2
    rw [hE]
    clear hE ho
    obtain⟨bu,hbu⟩:∃ bu,bu=obu.toNat:=⟨_,rfl⟩
    obtain rfl:obu=(bu:Int):=by omega
    rw [Int.toNat_natCast]
    have hb1:1<=bu:=by omega
    have hb2:bu<=64:=by omega
    have HFt:=hid (fun W (h:Fr w W)=>foot_any _ b W (hs.fr h) hl (ht.fr h))
    have HE:=hid (opE_eq bu b)
    obtain⟨hrl,hdl⟩:=bd_lens b
    have HTc:=hid (fun W (h:Fr w W)=>ht.fr h)
    clear hbu hbu1 hbu2 hs ht
    generalize hER:opE bu b=ER at *
    go_enter Tryz.func15, Tryz.ntmps15
    go_wp2_with fail
    refine(HC.out _).mono ?_
    rintro e w1 ⟨rfl,hf1⟩
    have hf01:=hfO.trans hf1
    have hO1:=hf1.heap hO0
    have HF1:=hid (HFt.out w1 hf01)
    clear HC hfO hO0 hf1 HFt hER
    go_wp2_with fail
    refine(HF1.out).mono ?_
    rintro e w2 ⟨rv,dv,rfl,hok,hf2⟩
    have hf02:=hf01.trans hf2
    have hO2:=hf2.heap hO1
    clear HF1 hO1
    by_cases hft:ftE b=0
    · rw [if_pos hft]at HE
      obtain⟨hRs,hDs⟩:=hok hft
      obtain⟨ra,rc,hrv,_⟩:=hRs.shape
      subst hrv
      obtain⟨da,dc,hdv⟩:=hDs.shape'
      subst hdv
      have hft':((ftE b:Nat):Int)=0:=by omega
      rw [hft']
      clear hok hft hft'
      have hfg:Fr w2 (w2.alloc (.cells #[.slice none 0 0,.slice none 0 0,.int .i64 0,.int .i64 0,.slice none 0 0,.slice none 0 0,.slice none 0 0,.slice none 0 0,.slice none 0 0,.slice none 0 0] 67)):=(Fr.refl w2).alloc _
      have hg3:=heap_new w2 (.cells #[.slice none 0 0,.slice none 0 0,.int .i64 0,.int .i64 0,.slice none 0 0,.slice none 0 0,.slice none 0 0,.slice none 0 0,.slice none 0 0,.slice none 0 0] 67) w2.heap.size rfl
      have hz3:w2.heap.size<(w2.alloc (.cells #[.slice none 0 0,.slice none 0 0,.int .i64 0,.int .i64 0,.slice none 0 0,.slice none 0 0,.slice none 0 0,.slice none 0 0,.slice none 0 0,.slice none 0 0] 67)).heap.size:=by simp
      have hO3:=hfg.heap hO2
      have HDr:=hid (dread_any w2.heap.size (bdRest b).length _ (bdDir b) _ hg3 (hDs.see.fr hfg) (by omega) (by omega))
      have hRoom:=dir_room (bdDir b)
      have hOk:=dirE_ok (bdDir b) (bdRest b).length
      have HB:Hid (opB bu b=⟨(dirG (bdDir b)).1,(dirG (bdDir b)).2.1,(dirP (bdDir b)).1,(dirQ (bdDir b)).1,cutsL (dirG (bdDir b)).2.1 (bdRest b),(colR (dirN (bdDir b)).1 (cutB (bdCol b))).1,(colR (dirN (bdDir b)).1 (cutB (bdCol b))).2.1,(postR bu (dirN (bdDir b)).1 (cutB (bdIdx b))).1,(postR bu (dirN (bdDir b)).1 (cutB (bdIdx b))).2.1⟩):=rfl
      have HCol:Hid (((bdRest b).drop (dirG (bdDir b)).2.1.sum).take (dirP (bdDir b)).1=bdCol b):=rfl
      have HIdx:Hid (((bdRest b).drop (dirG (bdDir b)).2.1.sum).drop (dirP (bdDir b)).1=bdIdx b):=by show _=_;unfold bdIdx bdAt;rw [List.drop_drop]
      have HIl:Hid ((bdIdx b).length<=1000000/\(bdCol b).length<=1000000):=by
        refine⟨?_,?_⟩
        · unfold bdIdx;rw [List.length_drop];omega
        · unfold bdCol;rw [List.length_take,List.length_drop];omega
      have hgO:w.heap.size<w2.heap.size:=(Array.getElem?_eq_some_iff.1 hO2).1
      clear hfg hg3 hDs hO2
      generalize dirE (bdDir b) (bdRest b).length=dE at *
      generalize (dirN (bdDir b)).1=n at *
      generalize (dirG (bdDir b)).1=cs at *
      generalize (dirG (bdDir b)).2.1=zs at *
      generalize (dirP (bdDir b)).1=p at *
      generalize (dirQ (bdDir b)).1=q at *
      generalize bdDir b=dir at *
      generalize bdCol b=col at *
      generalize bdIdx b=idx at *
      generalize bdRest b=rest at *
      obtain⟨r1,_,r3,r4,r5,r6,r7,r8⟩:=hRoom
      have hgw:w.heap.size<=w2.heap.size:=hf02.size
      have HRs:=hid hRs
      clear hRs
      go_wp2_with fail
      have hf23:Fr w2 (w2.alloc (.cells #[.slice none 0 0,.slice none 0 0,.int .i64 0,.int .i64 0,.slice none 0 0,.slice none 0 0,.slice none 0 0,.slice none 0 0,.slice none 0 0,.slice none 0 0] 67)):=(Fr.refl w2).alloc _
      generalize w2.alloc (.cells #[.slice none 0 0,.slice none 0 0,.int .i64 0,.int .i64 0,.slice none 0 0,.slice none 0 0,.slice none 0 0,.slice none 0 0,.slice none 0 0,.slice none 0 0] 67)=w3 at *
      refine(HDr.out).mono ?_
      rintro e w4 ⟨rfl,hD4,hc4⟩
      have hf24:Fr w2 w4:=((hf23.chg (fun k=>k=w2.heap.size)).trans hc4 fun _ _ h=>h).fr (fun k hk e=>by have e:k=w2.heap.size:=e;omega)
      have hO4:=hc4.heap hO3 (fun e=>by have e:w.heap.size=w2.heap.size:=e;omega)
      clear HDr hO3 hf23
      by_cases hde:dE=0
      · rw [if_pos hde]at HE
        obtain⟨hsum,hroom⟩:=hOk hde
        have hde':((dE:Nat):Int)=0:=by omega
        rw [hde']
        clear hOk hde hde'
        obtain⟨cv,sv,hG4,hCv,hSv,_⟩:=hD4.h
        obtain⟨sa,sc,hsv⟩:=hSv.shape'
        subst hsv
        obtain⟨ca,cc,hcv⟩:=hCv.shape'
        subst hcv
        have HSp:=hid (bsplit_any w2.heap.size p w3.heap.size _ rest zs w2 w4 _ _ _ _ _ _ _ _ hG4 hSv HRs.out hf24 (Nat.le_refl _) hz3 (by omega) (by omega) r4)
        rw [HCol.out,HIdx.out]at HSp
        have hf04:=hf02.trans hf24
        clear HRs HCol HIdx hD4
        go_wp2_with fail
        refine(HSp.out).mono ?_
        rintro e w5 ⟨kv,iv,rfl,hKs,hIs,⟨fv,ps,hG5,hF5,hFr5⟩,hc5⟩
        obtain⟨ka,kc,hkv,_⟩:=hKs.shape
        subst hkv
        obtain⟨ia,ic,hiv,_⟩:=hIs.shape
        subst hiv
        obtain⟨fa,fc,hfv⟩:=hF5.shape'
        subst hfv
        have hpl:ps.length=zs.length:=by rw [hFr5.1,cutsL_len]
        have hplm:ps.length<=20000:=by omega
        have hCv5:=(ow_g hCv hG4 (by decide) hc5).rebase (show w.heap.size<=w3.heap.size by omega)
        have hSv5:=(ow_g hSv hG4 (by decide) hc5).rebase (show w.heap.size<=w3.heap.size by omega)
        have hFb:=hF5.rebase (show w.heap.size<=w4.heap.size from hf04.size)
        have hFrb:=hFr5.rebase (show w.heap.size<=w4.heap.size from hf04.size)
        have hf25:Fr w2 w5:=((hf24.chg (fun k=>k=w2.heap.size)).trans hc5 fun _ _ h=>h).fr (fun k hk e=>by have e:k=w2.heap.size:=e;omega)
        have hO5:=hc5.heap hO4 (fun e=>by have e:w.heap.size=w2.heap.size:=e;omega)
        have hPl:=hid hpl
        clear HSp hCv hSv hG4 hF5 hFr5 hf24 hc5 hO4 hf04 hpl
        have hmk:=made_run eO rfl rfl 65 Tryz.underlying65 .i64 .i64 ps.length (by omega) w5
        have hFx:Fr w5 (w5.alloc (.cells (madeCells #[eO.z] ps.length) eO.e)):=(Fr.refl w5).alloc _
        rw [show(eO:Elt Tryz.prog Bool).e=4 from rfl]at *
        generalize madeCells #[eO.z] ps.length=T0 at *
        have c8:w5.cell? ⟨w2.heap.size,8,none⟩=some (.slice fa ps.length fc):=by rw [cell_of_heap hG5];rfl
        have hG6:=hFx.heap hG5
        have e9:(w5.alloc (.cells T0 4)).cell? ⟨w2.heap.size,9,none⟩=some (.slice none 0 0):=by rw [cell_of_heap hG6];rfl
        have f9:(w5.alloc (.cells T0 4)).frozen? ⟨w2.heap.size,9,none⟩=false:=frozen_of_heap hG6 9
        have hG7:=heap_setCell_own hG6 9 (.slice (some ⟨w5.heap.size,0,none⟩) ps.length ps.length)
        have hst7:=setCell_chg (w5.alloc (.cells T0 4)) ⟨w2.heap.size,9,none⟩ (.slice (some ⟨w5.heap.size,0,none⟩) ps.length ps.length)
        have hc57:Chg (fun k=>k=w2.heap.size) w5 ((w5.alloc (.cells T0 4)).setCell ⟨w2.heap.size,9,none⟩ (.slice (some ⟨w5.heap.size,0,none⟩) ps.length ps.length)):=(hFx.chg _).trans hst7 fun _ _ h=>h
        have hCv7:=ow_g hCv5 hG5 (by decide) hc57
        have hSv7:=ow_g hSv5 hG5 (by decide) hc57
        have hF7:=ow_g hFb hG5 (by decide) hc57
        have hFr7:=owns_g hFrb hG5 (by decide) hc57
        have hO7:=hc57.heap hO5 (fun e=>by have e:w.heap.size=w2.heap.size:=e;omega)
        have hf27:Fr w2 ((w5.alloc (.cells T0 4)).setCell ⟨w2.heap.size,9,none⟩ (.slice (some ⟨w5.heap.size,0,none⟩) ps.length ps.length)):=((hf25.chg (fun k=>k=w2.heap.size)).trans hc57 fun _ _ h=>h).fr (fun k hk e=>by have e:k=w2.heap.size:=e;omega)
        clear hFx hG6 hst7 hCv5 hSv5 hFb hFrb hO5 hf25 hc57 hG5
        go_upto_region 13 with fail
        generalize (w5.alloc (.cells T0 4)).setCell ⟨w2.heap.size,9,none⟩ (.slice (some ⟨w5.heap.size,0,none⟩) ps.length ps.length)=w7 at *
        clear hmk c8 e9 f9 hplm
        obtain⟨av,hav⟩:∃ av,av=Value.slice (some ⟨w5.heap.size,0,none⟩) ps.length ps.length:=⟨_,rfl⟩
        have hG7:w7.heap[w2.heap.size]?=some (.cells #[.slice ca cs.length cc,.slice sa zs.length sc,N p,N q,.slice none 0 0,.slice none 0 0,.slice none 0 0,.slice none 0 0,.slice fa ps.length fc,av] 67 (0,0)):=by rw [hav];exact hG7
        clear hav
        have HLn:=hid (fun W (h:Fr w7 W)=>BdLen_any w2.heap.size cs W _ _ _ _ _ _ _ _ _ _ (h.heap hG7) (hCv7.see.fr h) (by omega) (by omega))
        rw [hsum]at HLn
        have hIC:=HIl.out
        have HCo:=hid (fun W (h:Fr w7 W)=>copen_any w2.heap.size n r1 _ col W _ _ _ _ _ _ _ _ (h.heap hG7) (hKs.fr (hf27.trans h)) hIC.2 (HTc.out W ((hf02.trans hf27).trans h)))
        have HSum:=hid hsum
        have HRoom:=hid hroom
        clear hKs hsum hroom
        generalize hCE:colE n col=cE at *
        go_region_held3 (fun _ => True) (first | trivial | go_keep)
          ((first
            | (go_at_call 37; refine (HLn.out _ (by first | exact Fr.refl _ | exact (Fr.refl _).drew)).mono ?_; rintro e wx ⟨rfl, rfl⟩)
            | (go_at_call 36; refine (HCo.out _ (by first | exact Fr.refl _ | exact (Fr.refl _).drew)).mono ?_; rintro e w8 ⟨rfl, hok8, hc8⟩)))
        have hc78:Chg (fun k=>k=w2.heap.size) w7 w8:=by first | exact hc8 | exact(((Fr.refl w7).drew.chg (fun k=>k=w2.heap.size)).trans hc8 fun _ _ h=>h)
        have hf28:Fr w2 w8:=((hf27.chg (fun k=>k=w2.heap.size)).trans hc78 fun _ _ h=>h).fr (fun k hk e=>by have e:k=w2.heap.size:=e;omega)
        have hO8:=hc78.heap hO7 (fun e=>by have e:w.heap.size=w2.heap.size:=e;omega)
        have hCv8:=ow_g hCv7 hG7 (by decide) hc78
        have hSv8:=ow_g hSv7 hG7 (by decide) hc78
        have hF8:=ow_g hF7 hG7 (by decide) hc78
        have hFr8:=owns_g hFr7 hG7 (by decide) hc78
        have hw78:w.heap.size<=w7.heap.size:=(hf02.trans hf27).size
        clear HLn HCo hCv7 hSv7 hF7 hFr7 hO7 hf27 hG7 hc8 hc78
        by_cases hce:cE=0
        · rw [if_pos hce]at HE
          obtain⟨tu,lu,hG8,hT8,hL8⟩:=hok8 hce
          have hT8:=hT8.rebase (show w.heap.size<=_ from hw78)
          have hL8:=hL8.rebase (show w.heap.size<=_ from hw78)
          have hce':((cE:Nat):Int)=0:=by omega
          rw [hce']
          clear hok8 hce hce' hCE
          have HCt:=hid (Cut_any _ idx w8 (hIs.fr hf28) HIl.out.1 (HTc.out w8 (hf02.trans hf28)))
          generalize hXE:errCut idx=xE at *
          have hql:(cutB idx).length<=1000000:=Nat.le_trans (cutB_le idx) HIl.out.1
          generalize cutB idx=xq at *
          clear hIs
          go_wp2_with fail
          refine(HCt.out).mono ?_
          rintro e w9 ⟨xu,rfl,hX9,hf9⟩
          obtain⟨xa,xc,hxu⟩:=hX9.shape'
          subst hxu
          have hf29:=hf28.trans hf9
          have hG9:=hf9.heap hG8
          have hO9:=hf9.heap hO8
          have hCv9:=hCv8.fr hf9
          have hSv9:=hSv8.fr hf9
          have hF9:=hF8.fr hf9
          have hFr9:=hFr8.fr hf9
          have hT9:=hT8.fr hf9
          have hL9:=hL8.fr hf9
          clear HCt hf28 hG8 hO8 hCv8 hSv8 hF8 hFr8 hT8 hL8 hXE
          by_cases hxe:xE=0
          · rw [if_pos hxe]at HE
            have hxe':((xE:Nat):Int)=0:=by omega
            rw [hxe']
            have hw9:w.heap.size<=w9.heap.size:=(hf02.trans hf29).size
            have HLn:=hid (fun W (h:Fr w9 W)=>BdLen_any w2.heap.size cs W _ _ _ _ _ _ _ _ _ _ (h.heap hG9) (hCv9.see.fr h) (by omega) (by omega))
            rw [HSum.out]at HLn
            have HPr:=hid (fun W (h:Fr w9 W)=>PRead_any bu n hb1 hb2 r1 _ xq W (hX9.see.fr h) hql)
            have x2:w9.cell? ⟨w.heap.size,2,none⟩=some (N bu):=by rw [cell_of_heap hO9];rfl
            clear hxe hxe' hX9
            generalize postR bu n xq=PR at *
            go_upto_region 19 with fail
            go_region_held3 (fun W => W.cell? ⟨w.heap.size, 2, none⟩ = some (N bu)) (first | exact hk10 | exact hk11 _ | exact hk12 _ _ | go_keep)
              ((first
                | (go_at_call 37; refine (HLn.out _ (by first | exact Fr.refl _ | exact (Fr.refl _).drew)).mono ?_; rintro e wx ⟨rfl, rfl⟩)
                | (go_at_call 39; refine (HPr.out _ (by first | exact Fr.refl _ | exact (Fr.refl _).drew)).mono ?_; rintro e w10 ⟨qt, ql, rfl, hQT, ⟨qs, hQL, hQO⟩, hf10⟩
                   obtain ⟨qa, qc, hqt⟩ := hQT.shape'
                   subst hqt
                   obtain ⟨la, lc, hql⟩ := hQL.shape'
                   subst hql
                   have hG10 := hf10.heap (show w9.drew.heap[w2.heap.size]? = _ from hG9)
                   have hO10 := hf10.heap (show w9.drew.heap[w.heap.size]? = _ from hO9)
                   have hk10 : w10.cell? ⟨w.heap.size, 2, none⟩ = some (N bu) := by rw [cell_of_heap hO10]; rfl
                   have hk11 : ∀ u, (w10.setCell ⟨w2.heap.size, 6, none⟩ u).cell? ⟨w.heap.size, 2, none⟩ = some (N bu) := fun u => by rw [cell_of_heap ((setCell_chg w10 ⟨w2.heap.size, 6, none⟩ u).heap hO10 (fun e => by have e : w.heap.size = w2.heap.size := e; omega))]; rfl
                   have hk12 : ∀ u z, ((w10.setCell ⟨w2.heap.size, 6, none⟩ u).setCell ⟨w2.heap.size, 7, none⟩ z).cell? ⟨w.heap.size, 2, none⟩ = some (N bu) := fun u z => by rw [cell_of_heap ((setCell_chg (w10.setCell ⟨w2.heap.size, 6, none⟩ u) ⟨w2.heap.size, 7, none⟩ z).heap ((setCell_chg w10 ⟨w2.heap.size, 6, none⟩ u).heap hO10 (fun e => by have e : w.heap.size = w2.heap.size := e; omega)) (fun e => by have e : w.heap.size = w2.heap.size := e; omega))]; rfl
                   have e6 : w10.cell? ⟨w2.heap.size, 6, none⟩ = some (.slice none 0 0) := by rw [cell_of_heap hG10]; rfl
                   have e7 : w10.cell? ⟨w2.heap.size, 7, none⟩ = some (.slice none 0 0) := by rw [cell_of_heap hG10]; rfl
                   have f6 : w10.frozen? ⟨w2.heap.size, 6, none⟩ = false := frozen_of_heap hG10 6
                   have f7 : w10.frozen? ⟨w2.heap.size, 7, none⟩ = false := frozen_of_heap hG10 7)))
            have hG11:=heap_setCell_own hG10 6 (.slice qa PR.1.length qc)
            have hG12:=heap_setCell_own hG11 7 (.slice la qs.length lc)
            have hst1:=setCell_chg w10 ⟨w2.heap.size,6,none⟩ (.slice qa PR.1.length qc)
            have hst2:=setCell_chg (w10.setCell ⟨w2.heap.size,6,none⟩ (.slice qa PR.1.length qc)) ⟨w2.heap.size,7,none⟩ (.slice la qs.length lc)
            have hc12:Chg (fun k=>k=w2.heap.size) w10 ((w10.setCell ⟨w2.heap.size,6,none⟩ (.slice qa PR.1.length qc)).setCell ⟨w2.heap.size,7,none⟩ (.slice la qs.length lc)):=hst1.trans hst2 fun _ _ h=>h
            have hf910:Fr w9 w10:=by first | exact hf10 | exact(Fr.refl w9).drew.trans hf10
            have hQT2:=ow_g (hQT.rebase (show w.heap.size<=_ from hw9)) hG10 (by decide) hc12
            have hQL2:=ow_g (hQL.rebase (show w.heap.size<=_ from hw9)) hG10 (by decide) hc12
            have hQO2:=owns_g (hQO.rebase (show w.heap.size<=_ from hw9)) hG10 (by decide) hc12
            have hCv2:=ow_g (hCv9.fr hf910) hG10 (by decide) hc12
            have hSv2:=ow_g (hSv9.fr hf910) hG10 (by decide) hc12
            have hF2':=ow_g (hF9.fr hf910) hG10 (by decide) hc12
            have hFr2:=owns_g (hFr9.fr hf910) hG10 (by decide) hc12
            have hT2:=ow_g (hT9.fr hf910) hG10 (by decide) hc12
            have hL2:=ow_g (hL9.fr hf910) hG10 (by decide) hc12
            have hfe:Fr w ((w10.setCell ⟨w2.heap.size,6,none⟩ (.slice qa PR.1.length qc)).setCell ⟨w2.heap.size,7,none⟩ (.slice la qs.length lc)):=(((hf02.trans (hf29.trans hf910)).chg (fun k=>k=w2.heap.size)).trans hc12 fun _ _ h=>h).fr (fun k hk e=>by have e:k=w2.heap.size:=e;omega)
            clear hk10 hk11 hk12 e6 e7 f6 f7 hG11 hst1 hst2 hc12 hG10 hO10 hQT hQL hQO hCv9 hSv9 hF9 hFr9 hT9 hL9 hG9 hO9 x2 HLn HPr hf10 hf910
            generalize (w10.setCell ⟨w2.heap.size,6,none⟩ (.slice qa PR.1.length qc)).setCell ⟨w2.heap.size,7,none⟩ (.slice la qs.length lc)=w12 at *
            by_cases hpe:PR.2.2=0
            · have HE':Hid (ER=0):=HE.out.trans hpe
              have i2:((PR.2.2:Nat):Int)=0:=by omega
              rw [i2]
              clear HE hpe i2
              go_wp2_with fail
              go_ret2
              exact⟨_,by rw [HE'.out];rfl,fun _=>⟨w2.heap.size,rfl,⟨by rw [HB.out];exact⟨_,_,_,_,_,_,_,_,hG12,hCv2,hSv2,hT2,hL2,hQT2,⟨qs,hQL2,hQO2⟩,⟨ps,hF2',hFr2⟩⟩,hgw⟩⟩,fun h=>absurd HE'.out h,hfe⟩
            · have i2:¬(PR.2.2:Int)=0:=by omega
              have hne:¬ER=0:=by rw [HE.out];exact hpe
              have HE':Hid (ER=PR.2.2):=HE.out
              clear HE hpe
              go_wp2_with fail
              go_ret2
              exact⟨_,by rw [HE'.out];rfl,fun h=>absurd h hne,fun _=>rfl,hfe⟩
          · rw [if_neg hxe]at HE
            have i2:¬(xE:Int)=0:=by omega
            have hne:¬ER=0:=by rw [HE.out];exact hxe
            have HE':Hid (ER=xE):=HE.out
            have hf09:=hf02.trans hf29
            clear HE hO9 hxe
            go_wp2_with fail
            go_ret2
            exact⟨_,by rw [HE'.out];rfl,fun h=>absurd h hne,fun _=>rfl,hf09⟩
        · rw [if_neg hce]at HE
          have i2:¬(cE:Int)=0:=by omega
          have hne:¬ER=0:=by rw [HE.out];exact hce
          have HE':Hid (ER=cE):=HE.out
          have hf08:=hf02.trans hf28
          clear HE hO8 hce
          go_wp2_with fail
          go_ret2
          exact⟨_,by rw [HE'.out];rfl,fun h=>absurd h hne,fun _=>rfl,hf08⟩
      · rw [if_neg hde]at HE
        have i2:¬(dE:Int)=0:=by omega
        have hne:¬ER=0:=by rw [HE.out];exact hde
        have HE':Hid (ER=dE):=HE.out
        have hf04:=hf02.trans hf24
        clear HE hO4 hde
        go_wp2_with fail
        go_ret2
        exact⟨_,by rw [HE'.out];rfl,fun h=>absurd h hne,fun _=>rfl,hf04⟩
    · rw [if_neg hft]at HE
      have i2:¬(ftE b:Int)=0:=by omega
      have hne:¬ER=0:=by rw [HE.out];exact hft
      have HE':Hid (ER=ftE b):=HE.out
      clear HE hok hO2 hft
      go_wp2_with fail
      go_ret2
      exact⟨_,by rw [HE'.out];rfl,fun h=>absurd h hne,fun _=>rfl,hf02⟩
set_option maxRecDepth 512
end Go.Proofs.YtijghcbpfcjjnaaGreatDoor
