/- Parts of the proof of ThreeOpens: Ct. -/
import Derived.Test.YtijghcbpfcjjnaaGreatDoorM17
import Derived.Test.YtijghcbpfcjjnaaGreatDoorM35
import Derived.Test.YtijghcbpfcjjnaaGreatDoorM31
set_option linter.unusedVariables false
set_option linter.unusedSectionVars false
set_option linter.unusedSimpArgs false
set_option maxHeartbeats 8000000
namespace Go.Proofs.YtijghcbpfcjjnaaGreatDoor
open Go.RowKit Go.Fk
def eHi:Elt Tryz.prog Hd:=⟨30,1,24,⟨none,0,0⟩,.slice none 0 0,fun h=>[h.v],by kernel_rfl,by decide,by decide,by simp [Value.cells],fun _=>rfl,by intro x u hu;simp at hu;subst hu;rfl⟩
theorem ow_g{α:Type}{E:Elt Tryz.prog α}{w w':World}{g base:Nat}{v:Value}{l:List α}{cs:Array Value}{T:TypeId}{f:Nat × Nat}(h:Ow w base E v l)(hg:w.heap[g]?=some (.cells cs T f))(hT:T≠E.e)(hc:Chg (fun k=>k=g) w w'):Ow w' base E v l:=
 h.chg hc fun k hk e=>h.ne_cells hg hT (by rw [hk,show k=g from e])
theorem owns_g{α:Type}{E:Elt Tryz.prog α}{w w':World}{g base:Nat}{ps:List Hd}{ls:List (List α)}{cs:Array Value}{T:TypeId}{f:Nat × Nat}(h:Owns w base E ps ls)(hg:w.heap[g]?=some (.cells cs T f))(hT:T≠E.e)(hc:Chg (fun k=>k=g) w w'):Owns w' base E ps ls:=
 ⟨h.1,fun t h1 h2=>ow_g (h.2 t h1 h2) hg hT hc⟩
theorem SClone_any(v:Value)(q:List (List UInt8))(w:World)(hv:See w eS v q)(hn:q.length<=100000000) :
  Calls Tryz.prog 20 #[v] w fun e w'=>∃ v,e=.returned v/\Ow w' w.heap.size eS v q/\Fr w w':=by
 obtain⟨a,cap,hva,hc1,hc2,hnn⟩:=hv.shape
 subst hva
 cases a with
 | none=>
  obtain⟨rfl,rfl⟩:=hnn rfl
  have heq:=fun W=>Lib.run_eql_slice_nil (P:=Tryz.prog) W 33 9 none 0 0 0 0 Tryz.underlying33
  go_enter Tryz.func20, Tryz.ntmps20
  go_wp2_with fail
  go_ret
  exact⟨_,rfl,Ow.nil,Fr.refl w⟩
 | some a=>
  clear hnn
  have hown0:=own_lit eS w #[] ([]:List (List UInt8)) 0 rfl (by simp) (Nat.le_refl w.heap.size) rfl
  have hv2:=hv.fr ((Fr.refl w).alloc (.cells #[] eS.e))
  have heq:=fun W=>Lib.run_eql_slice_nil (P:=Tryz.prog) W 33 9 (some a) q.length cap 0 0 Tryz.underlying33
  go_enter Tryz.func20, Tryz.ntmps20
  go_wp2_with (at_builtin;refine wpList_app eS rfl (.tmp 5) (.tmp 6) 33 rfl Tryz.underlying33 w.heap.size rfl hown0 _ _ rfl hv2 ?c1 ?c2 ?_)
  case c1=>simp;omega
  case c2=>simp
  intro v' w4 hap
  go_wp2_with fail
  go_ret
  exact⟨_,rfl,hap.own,hap.below hown0 ((Fr.refl w).alloc _) (Nat.le_refl _) (by simp)⟩
theorem JClone_any(v:Value)(q:List Nat)(w:World)(hv:See w eJ v q)(hn:q.length<=100000000) :
  Calls Tryz.prog 18 #[v] w fun e w'=>∃ v,e=.returned v/\Ow w' w.heap.size eJ v q/\Fr w w':=by
 obtain⟨a,cap,hva,hc1,hc2,hnn⟩:=hv.shape
 subst hva
 cases a with
 | none=>
  obtain⟨rfl,rfl⟩:=hnn rfl
  have heq:=fun W=>Lib.run_eql_slice_nil (P:=Tryz.prog) W 30 3 none 0 0 0 0 Tryz.underlying30
  go_enter Tryz.func18, Tryz.ntmps18
  go_wp2_with fail
  go_ret
  exact⟨_,rfl,Ow.nil,Fr.refl w⟩
 | some a=>
  clear hnn
  have hown0:=own_lit eJ w #[] ([]:List Nat) 0 rfl (by simp) (Nat.le_refl w.heap.size) rfl
  have hv2:=hv.fr ((Fr.refl w).alloc (.cells #[] eJ.e))
  have heq:=fun W=>Lib.run_eql_slice_nil (P:=Tryz.prog) W 30 3 (some a) q.length cap 0 0 Tryz.underlying30
  go_enter Tryz.func18, Tryz.ntmps18
  go_wp2_with (at_builtin;refine wpList_app eJ rfl (.tmp 5) (.tmp 6) 30 rfl Tryz.underlying30 w.heap.size rfl hown0 _ _ rfl hv2 ?c1 ?c2 ?_)
  case c1=>simp;omega
  case c2=>simp
  intro v' w4 hap
  go_wp2_with fail
  go_ret
  exact⟨_,rfl,hap.own,hap.below hown0 ((Fr.refl w).alloc _) (Nat.le_refl _) (by simp)⟩
set_option maxRecDepth 100000
theorem DLen_any(g base size:Nat)(t hs:List (List UInt8))(w:World)(h:DictAt w g base size t hs) :
  Calls Tryz.prog 87 #[.pointer (some ⟨g,0,none⟩)] w fun e w'=>e=.returned (N t.length)/\w=w':=by
 obtain⟨⟨tv,hv,h1,h2,h3,h4⟩,h5⟩:=h
 obtain⟨a0,cap,hv2⟩:=h2.shape'
 subst hv2
 have c1:w.cell? ⟨g,0,none⟩=some (.slice a0 t.length cap):=by rw [cell_of_heap h1];rfl
 clear h1 h2 h3 h4
 go_enter Tryz.func87, Tryz.ntmps87
 go_wp2_with fail
 go_ret
 exact⟨rfl,rfl⟩
theorem DAll_any(g base size:Nat)(t hs:List (List UInt8))(w:World)(h:DictAt w g base size t hs)(hn:t.length<=100000000) :
  Calls Tryz.prog 88 #[.pointer (some ⟨g,0,none⟩)] w fun e w'=>∃ v,e=.returned v/\Ow w' w.heap.size eS v t/\Fr w w':=by
 obtain⟨⟨tv,hv,h1,h2,h3,h4⟩,h5⟩:=h
 have HC:=hid (SClone_any tv t w h2.see hn)
 obtain⟨a0,cap,hv2⟩:=h2.shape'
 subst hv2
 have c1:w.cell? ⟨g,0,none⟩=some (.slice a0 t.length cap):=by rw [cell_of_heap h1];rfl
 clear h1 h2 h3 h4
 go_enter Tryz.func88, Tryz.ntmps88
 go_wp2_with fail
 refine(HC.out).mono ?_
 rintro e w1 ⟨u,rfl,hO,hf⟩
 obtain⟨pa,pc,hu⟩:=hO.shape'
 subst hu
 clear HC
 go_wp2_with fail
 go_ret
 exact⟨_,rfl,hO,hf⟩
set_option maxRecDepth 512
theorem listsGo_step(bound:Nat)(b:List UInt8)(n i a:Nat)(ls:List (List Nat))(h:i<n):listsGo bound b (n - i) a ls=if(efR bound (b.drop a)).2.2=0 then(if(efR bound (b.drop a)).1=[]then([],2)else listsGo bound b (n - (i+1)) (a+(efR bound (b.drop a)).2.1) (ls++[(efR bound (b.drop a)).1]))else([],(efR bound (b.drop a)).2.2):=by
 rw [show n - i=(n - (i+1))+1 by omega,listsGo]
set_option maxRecDepth 100000
theorem plists_any(n bound:Nat)(hb:bound<=20000)(v:Value)(b:List UInt8)(w:World)(hs:See w eB v b)(hl:b.length<=1000000)(hn:n<=100000000) :
  Calls Tryz.prog 86 #[N n,N bound,v] w fun e w'=>∃ u,e=.returned (.tuple #[u,.int .i64 ((listsGo bound b n 0 []).2:Int)])/\(∃ ps,Ow w' w.heap.size eHi u ps/\Owns w' w.heap.size eJ ps (listsGo bound b n 0 []).1)/\Fr w w':=by
 obtain⟨L,hL⟩:∃ L,L=listsGo bound b n 0 []:=⟨_,rfl⟩
 rw [<- hL]
 have HL:Hid (L=listsGo bound b (n - 0) 0 []):=hL
 clear hL
 have HSt:=hid (listsGo_step bound b n)
 have HRd:=hid (fun v q W hs (hq:q.length<=1000000)=>ERead_any bound hb v q W hs hq)
 have HOk:=hid (fun q h=>efR_ok bound q h)
 obtain⟨a0,cap,hv,_⟩:=hs.shape
 subst hv
 have hd0:See w eB (.slice a0 b.length cap) (b.drop 0):=hs
 clear hs
 go_enter Tryz.func86, Tryz.ntmps86
 go_wp2_with fail
 go_loopw [2,8,13] (fun bv ov iv wr=>∃ (i a:Nat) (p:Option Addr) (c:Nat) (ps:List Hd) (ls:List (List Nat)),i<=n/\iv=N i/\a<=b.length/\bv=.slice p (b.length - a) c/\See w eB (.slice p (b.length - a) c) (b.drop a)/\ls.length=i/\Ow wr w.heap.size eHi ov ps/\Owns wr w.heap.size eJ ps ls/\Fr w wr/\Hid (L=listsGo bound b (n - i) a ls)) (fun _ _ iv _=>n - (intOf iv).toNat)
 case atStart=>exact⟨0,0,a0,cap,[],[],Nat.zero_le _,rfl,Nat.zero_le _,rfl,hd0,rfl,Ow.nil,⟨rfl,fun t h=>by simp at h⟩,Fr.refl _,HL.out⟩
 case round=>
  clear hd0 HL
  obtain⟨i,a,p,c,ps,ls,hi,rfl,ha,rfl,hd,hll,hO,hR,hf,HLk⟩:=hrel
  by_cases hlt:i<n
  · have i1:(i:Int)<n:=by omega
    have hdl:(b.drop a).length=b.length - a:=List.length_drop ..
    have HR1:=hid (HRd.out _ (b.drop a) wr (hd.fr hf) (by omega))
    have HS1:=hid (HSt.out i a ls hlt)
    have HO1:=hid (HOk.out (b.drop a))
    obtain⟨oa,oc,hov⟩:=hO.shape'
    subst hov
    have HLe:=hid (HLk.out.trans HS1.out)
    have hd2:=hd
    clear HLk HS1 hd
    generalize hq:efR bound (b.drop a)=Q at *
    clear hq
    go_wp2_with fail
    refine(HR1.out).mono ?_
    rintro e w2 ⟨pv,rfl,hf2,hok⟩
    have hO2:=hO.fr hf2
    have hR2:=hR.fr hf2
    have hff:=hf.trans hf2
    clear HR1 hO hR
    by_cases he:Q.2.2=0
    · rw [if_pos he]at HLe
      obtain⟨g,base,rfl,hgw,hLA⟩:=hok he
      obtain⟨o1,o2,o3,o4⟩:=HO1.out he
      have HLen:=hid (ELen_any g base Q.1 w2 hLA)
      have HAl:=hid (EAll_any g base Q.1 w2 hLA (fun x hx=>by have:=o4 x hx;omega) (by omega))
      have he':((Q.2.2:Nat):Int)=0:=by omega
      rw [he']at *
      clear he he' hok hLA HO1
      by_cases hn0:Q.1=[]
      · rw [if_pos hn0]at HLe
        have hl0:((Q.1.length:Nat):Int)=0:=by rw [hn0];rfl
        have HLn:Hid (L=([],2)):=HLe
        rw [hn0]at HLen
        have HLn0:Hid (Calls Tryz.prog 136 #[.pointer (some ⟨g,0,none⟩)] w2 fun e w'=>e=.returned (.int .i64 0)/\w2=w'):=HLen.out
        clear hn0 hl0 HLen HAl o3 o4
        go_wp2_with fail
        refine(HLn0.out).mono ?_
        rintro e w3 ⟨rfl,rfl⟩
        go_wp2_with fail
        go_ret2
        rw [HLn.out]
        exact⟨_,rfl,⟨[],Ow.nil,⟨rfl,fun t h=>by simp at h⟩⟩,hff⟩
      · rw [if_neg hn0]at HLe
        have hl0:¬((Q.1.length:Nat):Int)=0:=by
         intro e
         exact hn0 (List.eq_nil_of_length_eq_zero (by omega))
        obtain⟨p2,c2,hfrm,hfs⟩:=run_from eB 22 Tryz.underlying22 hd2 Q.2.1 o1
        have hlen2:(b.drop a).length - Q.2.1=b.length - (a+Q.2.1):=by rw [List.length_drop];omega
        rw [hlen2,List.drop_drop]at hfs
        rw [hlen2]at hfrm
        have ha2:a+Q.2.1<=b.length:=by rw [List.length_drop]at o1;omega
        have HFs:=hid hfs
        have HLn:Hid (L=listsGo bound b (n - (i+1)) (a+Q.2.1) (ls++[Q.1])):=HLe
        have HLl:=hid hll
        have HA2:=hid ha2
        clear hn0 hfs hd2 o1 o2 o3 o4 hll hlen2 ha2 HLe hdl
        generalize Q.2.1=tk at *
        generalize Q.1=ids at *
        have HPl:Hid (ps.length=i):=by show _=_;rw [hR2.1,HLl.out]
        have HLen2:=hid HLen.out
        have HC1:Hid (ps.length+[(⟨none,0,0⟩:Hd)].length<=2147483648):=by have:=HPl.out;show _<=_;simp;omega
        clear HLen
        go_wp2_with fail
        refine(HLen2.out).mono ?_
        rintro e w3 ⟨rfl,rfl⟩
        go_wp2_with fail
        refine(HAl.out).mono ?_
        rintro e w3 ⟨vi,rfl,hI3,hf3⟩
        obtain⟨ia,ic,hvi⟩:=hI3.shape'
        subst hvi
        have hO3:=hO2.fr hf3
        have hR3:=hR2.fr hf3
        have hf03:=hff.trans hf3
        have hIb:=hI3.rebase (show w.heap.size<=w2.heap.size from hff.size)
        clear HAl HLen2 hO2 hR2 hI3
        go_wp2_with (at_builtin;refine wpList_app1 eHi rfl (.tmp 30) (.tmp 33) 34 rfl Tryz.underlying34 w.heap.size rfl hO3 [⟨ia,ids.length,ic⟩] _ _ _ rfl rfl rfl HC1.out hf03.size ?_)
        intro v4 w4 hap
        have hR4:=(hR3.app hO3 hap (by decide)).snoc (x:=⟨ia,ids.length,ic⟩) (own_app hIb hO3 hap (by decide))
        have hf4:=hap.below hO3 hf03 (Nat.le_refl _) hf03.size
        have hll:=HLl.out
        obtain⟨va,vc,hv4⟩:=hap.own.shape'
        subst hv4
        go_wp2_with fail
        go_roundw
        case rel=>exact⟨i+1,a+tk,p2,c2,ps++[⟨ia,ids.length,ic⟩],ls++[ids],by omega,by go_num,HA2.out,rfl,HFs.out,by rw [List.length_append,hll];rfl,hap.own,hR4,hf4,HLn.out⟩
        case measure=>simp [intOf];omega
    · rw [if_neg he]at HLe
      have he':¬(Q.2.2:Int)=0:=by omega
      have HLn:Hid (L=([],Q.2.2)):=HLe
      clear he HLe hok HO1
      go_wp2_with fail
      go_ret2
      rw [HLn.out]
      exact⟨_,rfl,⟨[],Ow.nil,⟨rfl,fun t h=>by simp at h⟩⟩,hff⟩
  · obtain rfl:i=n:=by omega
    have hnl:¬((i:Int)<i):=by omega
    have HLn:Hid (L=if a<b.length then([],2)else(ls,0)):=by show _=_;rw [HLk.out,Nat.sub_self];rfl
    obtain⟨oa,oc,hov⟩:=hO.shape'
    subst hov
    clear HLk hd
    by_cases hal:a<b.length
    · rw [if_pos hal]at HLn
      have k1:(0:Int)<((b.length - a:Nat):Int):=by omega
      generalize b.length - a=bl at *
      go_wp2_with fail
      go_ret2
      rw [HLn.out]
      exact⟨_,rfl,⟨[],Ow.nil,⟨rfl,fun t h=>by simp at h⟩⟩,hf⟩
    · rw [if_neg hal]at HLn
      have k1:b.length - a=0:=by omega
      rw [k1]
      go_wp2_with fail
      go_ret2
      rw [HLn.out]
      exact⟨_,rfl,⟨ps,hO,hR⟩,hf⟩
set_option maxRecDepth 512
end Go.Proofs.YtijghcbpfcjjnaaGreatDoor
