/- Parts of the proof of ArchVersions: Ub U0 U7. -/
import Derived.Test.YtghcmindankceaaGreatDoorM18
import Derived.Test.YtghcmindankceaaGreatDoorM41
import Derived.Test.YtghcmindankceaaGreatDoorM08
import Derived.Test.YtghcmindankceaaGreatDoorM17
import Derived.Test.YtghcmindankceaaGreatDoorM14
set_option linter.unusedVariables false
set_option linter.unusedSectionVars false
set_option linter.unusedSimpArgs false
set_option maxHeartbeats 8000000
namespace Go.Proofs.YtghcmindankceaaGreatDoor
open Go.RowKit Go.Fk
set_option maxRecDepth 100000
theorem bfbytes0_any(F B base:Nat)(u:Value)(b:List UInt8)(w:World)(h0:(bkW b).1=0)(hG:w.heap[F]?=some (frB B (bkW b).1 (bkN b).1 (bkP b).1 u))(hu:Ow w base eB u (bkB b).1) :
  Calls Tryz.prog 220 #[.pointer (some ⟨F,0,none⟩)] w fun e w'=>∃ x,e=.returned (.tuple #[x,.int .i64 ((bkO b).2:Int)])/\See w' eB x (bkO b).1/\Fr w w':=by
 have HO:Hid (bkO b=if(bkN b).1=(bkP b).1 then((bkB b).1,0)else([],2)):=by show _=_;unfold bkO;rw [if_pos h0]
 rw [h0]at hG
 have HS:=hid hu.see
 obtain⟨pu,zu,hv⟩:=hu.shape'
 subst hv
 clear h0 hu
 generalize bkO b=R at *
 generalize (bkN b).1=xn at *
 generalize (bkP b).1=xp at *
 generalize (bkB b).1=U at *
 have c1:w.cell? ⟨F,1,none⟩=some (.int .i64 0):=by rw [cell_of_heap hG];rfl
 have c2:w.cell? ⟨F,2,none⟩=some (N xn):=by rw [cell_of_heap hG];rfl
 have c3:w.cell? ⟨F,3,none⟩=some (N xp):=by rw [cell_of_heap hG];rfl
 have c4:w.cell? ⟨F,4,none⟩=some (.slice pu U.length zu):=by rw [cell_of_heap hG];rfl
 have HK:=hid (fun m=>((Fr.refl w).drewN m).cell c4)
 by_cases h:xn=xp
 · have HR:=hid (HO.out.trans (if_pos h))
   have j1:(xn:Int)=(xp:Int):=by omega
   have j2:((xn:Int) != (xp:Int))=false:=by simp [j1]
   clear HO hG
   go_enter Tryz.func220, Tryz.ntmps220
   go_wp2_with fail
   go_quiet (fail)
   have c5:=HK.out nq
   go_wp2_with fail
   go_ret2
   rw [HR.out]
   exact⟨_,rfl,HS.out.fr ((Fr.refl w).drewN nq),(Fr.refl w).drewN nq⟩
 · have HR:=hid (HO.out.trans (if_neg h))
   have j1:¬(xn:Int)=(xp:Int):=by omega
   have j2:((xn:Int) != (xp:Int))=true:=by simpa using j1
   clear HO hG
   go_enter Tryz.func220, Tryz.ntmps220
   go_wp2_with fail
   go_quiet (fail)
   go_wp2_with fail
   go_ret2
   rw [HR.out]
   exact⟨_,rfl,See.nil,(Fr.refl w).drewN _⟩
theorem bopen_fr(v:Value)(b:List UInt8)(w:World)(hs:See w eB v b)(hl:b.length<=1000000)(ht:Crc w)
  (HBy:Hid (∀ F B base u W,W.heap[F]?=some (frB B (bkW b).1 (bkN b).1 (bkP b).1 u)->Ow W base eB u (bkB b).1->base<=W.heap.size->bkE b=0->Calls Tryz.prog 220 #[.pointer (some ⟨F,0,none⟩)] W fun e w'=>∃ x,e=.returned (.tuple #[x,.int .i64 ((bkO b).2:Int)])/\See w' eB x (bkO b).1/\Fr W w')) :
  Calls Tryz.prog 155 #[v] w fun e w'=>Fr w w'/\((bkE b≠0/\e=.returned (.tuple #[.pointer none,.slice none 0 0,.int .i64 (bkE b:Int)]))\/(bkE b=0/\∃ F B x u,e=.returned (.tuple #[.pointer (some ⟨F,0,none⟩),x,.int .i64 ((bkO b).2:Int)])/\See w' eB x (bkO b).1/\w'.heap[F]?=some (frB B (bkW b).1 (bkN b).1 (bkP b).1 u)/\CurF w' 242 B w.heap.size b (bkT b).2.at_ 0)):=by
 have HNew:=hid (New_any v b w hs hl)
 have HHd:=hid (fun F B W h1 h2 h3 h4=>bfhead_any F B w.heap.size b W h1 h2 h3 hl h4)
 have HRs:=hid (fun F B W h1 h2 h3 h4 h5 h6 h7=>bfrest_any F B w.heap.size v b w W hs h1 h2 h3 h4 h5 h6 hl h7 ht)
 have HEr:=hid (fun B n er W (h:CurF W 242 B w.heap.size b n er)=>CErr_any B w.heap.size n er b W h)
 obtain⟨a0,cap,hv,_⟩:=hs.shape
 subst hv
 clear hs ht
 generalize bkE b=E at *
 generalize bkO b=O at *
 generalize (bkT b).2.at_=tat at *
 generalize (bkW b).1=xw at *
 generalize (bkN b).1=xn at *
 generalize (bkP b).1=xp at *
 generalize bkD b=sD at *
 go_enter Tryz.func155, Tryz.ntmps155
 go_wp2_with fail
 refine(HNew.out).mono ?_
 rintro e w1 ⟨B,rfl,hC1,hf1,hB⟩
 have hBw:=hC1.lt
 have hfa:Fr w1 (w1.alloc (.cells #[.pointer (some ⟨B,0,none⟩),.int .i64 0,.int .i64 0,.int .i64 0,.slice none 0 0] 213)):=(Fr.refl w1).alloc _
 have hG2:(w1.alloc (.cells #[.pointer (some ⟨B,0,none⟩),.int .i64 0,.int .i64 0,.int .i64 0,.slice none 0 0] 213)).heap[w1.heap.size]?=some (frB B 0 0 0 (.slice none 0 0)):=heap_new _ _ _ rfl
 have hC2:=hC1.fr hfa
 have hf2:=hf1.trans hfa
 have hF:w.heap.size<=w1.heap.size:=hf1.size
 have HHd1:=hid (HHd.out w1.heap.size B _ hG2 hC2 (by omega) hf2.size)
 clear HNew HHd hC1 hG2 hC2 hfa hf1
 go_wp2_with fail
 refine(HHd1.out).mono ?_
 rintro e w3 ⟨rfl,hG3,hC3,hc3⟩
 have hFB:w1.heap.size≠B:=by omega
 generalize w1.heap.size=F at *
 have hf3:Fr w w3:=Chg.below hf2 hc3 hf2.size (fun i e=>by rcases e with e | e <;> omega)
 have HRs1:=hid (HRs.out F B w3 hf3 hB hF hG3 hC3 hFB hf3.size)
 clear HHd1 HRs hG3 hC3 hc3 hf2
 go_wp2_with fail
 refine(HRs1.out).mono ?_
 rintro e w4 ⟨u,rfl,hG4,hU4,hC4,hc4⟩
 have hf4:Fr w w4:=Chg.below hf3 hc4 hf3.size (fun i e=>by rcases e with e | e <;> omega)
 have c4:w4.cell? ⟨F,0,none⟩=some (.pointer (some ⟨B,0,none⟩)):=by rw [cell_of_heap hG4];rfl
 have HE4:=hid (HEr.out _ _ _ w4 hC4)
 have hz4:w3.heap.size<=w4.heap.size:=hc4.size
 clear HRs1 HEr hf3 hc4
 by_cases h0:E=0
 · have h0':((E:Nat):Int)=0:=by omega
   have HB4:=hid (HBy.out F B _ u w4 hG4 hU4 hz4 h0)
   rw [h0']at HE4
   rw [h0]at hC4
   have HH0:=hid h0
   clear HBy h0 h0' hU4
   go_wp2_with fail
   refine(HE4.out).mono ?_
   rintro e w5 ⟨rfl,rfl⟩
   clear HE4
   go_wp2_with fail
   refine(HB4.out).mono ?_
   rintro e w6 ⟨x,rfl,hx,hf6⟩
   obtain⟨px,zx,hq,_⟩:=hx.shape
   subst hq
   go_wp2_with fail
   go_ret3
   exact⟨hf4.trans hf6,.inr ⟨HH0.out,F,B,_,u,rfl,hx,hf6.heap hG4,hC4.fr hf6⟩⟩
 · have h0':¬((E:Nat):Int)=0:=by omega
   have HH0:=hid h0
   clear HBy h0
   go_wp2_with fail
   refine(HE4.out).mono ?_
   rintro e w5 ⟨rfl,rfl⟩
   go_wp2_with fail
   go_ret3
   exact⟨hf4,.inl ⟨HH0.out,rfl⟩⟩
theorem BRead_fr(v:Value)(b:List UInt8)(w:World)(hs:See w eB v b)(hl:b.length<=1000000)(ht:Crc w)(hO:(bkO b).1.length<=1000000)
  (HBy:Hid (∀ F B base u W,W.heap[F]?=some (frB B (bkW b).1 (bkN b).1 (bkP b).1 u)->Ow W base eB u (bkB b).1->base<=W.heap.size->bkE b=0->Calls Tryz.prog 220 #[.pointer (some ⟨F,0,none⟩)] W fun e w'=>∃ x,e=.returned (.tuple #[x,.int .i64 ((bkO b).2:Int)])/\See w' eB x (bkO b).1/\Fr W w')) :
  Calls Tryz.prog 87 #[v] w fun e w'=>∃ u,e=.returned (.tuple #[u,N (blkR b).2.1,.int .i64 ((blkR b).2.2:Int)])/\Ow w' w.heap.size eB u (blkR b).1/\Fr w w':=by
 have HOp:=hid (bopen_fr v b w hs hl ht HBy.out)
 have HR:Hid (blkR b=if bkE b=0 then(if(bkO b).2=0 then((bkO b).1,(bkT b).2.at_,0)else([],0,(bkO b).2))else([],0,bkE b)):=rfl
 have HAt:=hid (fun B n er W (h:CurF W 242 B w.heap.size b n er)=>At_cur B w.heap.size n er b W h)
 have HCl:=hid (fun x W (h:See W eB x (bkO b).1)=>BClone_any x _ W h hO)
 obtain⟨a0,cap,hv,_⟩:=hs.shape
 subst hv
 clear hs ht hO HBy
 generalize blkR b=R at *
 generalize bkE b=E at *
 generalize bkO b=O at *
 obtain⟨ol,oe⟩:=O
 generalize (bkT b).2.at_=tat at *
 simp only at HOp HR HCl
 go_enter Tryz.func87, Tryz.ntmps87
 go_wp2_with fail
 refine(HOp.out).mono ?_
 rintro e w1 ⟨hf1,⟨hE,rfl⟩ | ⟨hE,F,B,x,u,rfl,hx,hG,hC⟩⟩
 · have HR2:=hid (HR.out.trans (if_neg hE))
   have j1:¬((E:Nat):Int)=0:=by omega
   clear HR hE HOp
   go_wp2_with fail
   go_ret3
   rw [HR2.out]
   exact⟨_,rfl,Ow.nil,hf1⟩
 · have HR1:=hid (HR.out.trans (if_pos hE))
   obtain⟨px,zx,hq,_⟩:=hx.shape
   subst hq
   clear HR HOp
   by_cases h:oe=0
   · have HR2:=hid (HR1.out.trans (if_pos h))
     have h':((oe:Nat):Int)=0:=by omega
     rw [h']
     have c1:w1.cell? ⟨F,0,none⟩=some (.pointer (some ⟨B,0,none⟩)):=by rw [cell_of_heap hG];rfl
     have HC1:=hid (HCl.out _ w1.drew hx.drew)
     have HA1:=hid (fun W (h:Fr w1 W)=>HAt.out B _ _ W (hC.fr h))
     clear HR1 h h' hE HCl HAt hG
     go_wp2_with fail
     go_region_held3 (fun W => W.cell? ⟨F, 0, none⟩ = some (.pointer (some ⟨B, 0, none⟩)))
      (first | go_keep)
      ((first
       | (go_at_call 126; refine HC1.out.mono ?_; rintro e w2 ⟨u2, rfl, hO2, hf2⟩; obtain ⟨p2, z2, hq2⟩ := hO2.shape'; subst hq2; have c2 := hf2.cell c1)
       | (go_at_call 156; refine (HA1.out _ ((Fr.refl w1).drew.trans hf2)).mono ?_; rintro e w3 ⟨rfl, rfl⟩)))
     go_wp2_with fail
     go_ret3
     rw [HR2.out]
     exact⟨_,rfl,hO2.rebase hf1.size,hf1.trans ((Fr.refl w1).drew.trans hf2)⟩
   · have HR2:=hid (HR1.out.trans (if_neg h))
     have h':¬((oe:Nat):Int)=0:=by omega
     clear HR1 h hE
     go_wp2_with fail
     go_ret3
     rw [HR2.out]
     exact⟨_,rfl,Ow.nil,hf1⟩
set_option maxRecDepth 512
theorem bkB_len(b:List UInt8):(bkB b).1.length<=b.length:=by
 show((bkD b).take b (bkP b).1).1.length<=_
 unfold Cs.take
 split
 · split
   · exact Nat.zero_le _
   · rw [List.length_take,List.length_drop];omega
 · exact Nat.zero_le _
theorem BRead_st(v:Value)(b:List UInt8)(w:World)(hs:See w eB v b)(hl:b.length<=1000000)(ht:Crc w)(h0:(bkW b).1=0) :
  Calls Tryz.prog 87 #[v] w fun e w'=>∃ u,e=.returned (.tuple #[u,N (blkR b).2.1,.int .i64 ((blkR b).2.2:Int)])/\Ow w' w.heap.size eB u (blkR b).1/\Fr w w':=
 BRead_fr v b w hs hl ht (by
  unfold bkO
  rw [if_pos h0]
  have := bkB_len b
  split
  · show (bkB b).1.length ≤ _; omega
  · exact Nat.zero_le _) (fun F B base u W h1 h2 _ _ => bfbytes0_any F B base u b W h0 h1 h2)
def rdT(wh:Bool)(b:List UInt8)(s:Cs):Nat × Cs:=if wh=true then s.num b else(0,s)
def rdL(wh:Bool)(b:List UInt8)(s:Cs):Nat × Cs:=if wh=true then(rdT wh b s).2.byte b else(0,(rdT wh b s).2)
def rdS(wh:Bool)(b:List UInt8)(s:Cs):List UInt8 × Cs:=(rdL wh b s).2.text b 4000
def rdX(wh:Bool)(b:List UInt8)(s:Cs):List UInt8 × Cs:=(rdS wh b s).2.text b 4000
def rdR(wh:Bool)(b:List UInt8)(s:Cs):Rec:=⟨UInt64.ofNat (rdT wh b s).1,UInt8.ofNat (rdL wh b s).1,(rdS wh b s).1,(rdX wh b s).1⟩
def recGo(wh:Bool)(b:List UInt8):Nat->Cs->List Rec->List Rec × Nat
 | 0,s,out=>(out,s.er)
 | f+1,s,out=>
  if b.length<=s.at_ then(out,0)
  else if(rdX wh b s).2.er=0 then recGo wh b f (rdX wh b s).2 (out++[rdR wh b s])
  else([],(rdX wh b s).2.er)
def recsL(wh:Bool)(b:List UInt8):List Rec × Nat:=recGo wh b b.length ⟨0,0⟩ []
theorem recGo_end(wh:Bool)(b:List UInt8)(f:Nat)(s:Cs)(out:List Rec)(h:b.length<=s.at_)(he:s.er=0):recGo wh b f s out=(out,0):=by
 cases f with
 | zero=>rw [recGo,he]
 | succ f=>rw [recGo,if_pos h]
theorem recGo_step(wh:Bool)(b:List UInt8)(f:Nat)(s:Cs)(out:List Rec)(h:s.at_<b.length)(he:(rdX wh b s).2.er=0):recGo wh b (f+1) s out=recGo wh b f (rdX wh b s).2 (out++[rdR wh b s]):=by
 rw [recGo,if_neg (by omega),if_pos he]
theorem recGo_bad(wh:Bool)(b:List UInt8)(f:Nat)(s:Cs)(out:List Rec)(h:s.at_<b.length)(he:¬(rdX wh b s).2.er=0):recGo wh b (f+1) s out=([],(rdX wh b s).2.er):=by
 rw [recGo,if_neg (by omega),if_neg he]
theorem Cs.step_er(s:Cs)(r:Nat × Nat × Nat)(h:(s.step r).er=0):s.er=0/\r.2.2=0/\(s.step r).at_=s.at_+r.2.1:=by
 unfold Cs.step at *
 by_cases h0:s.er=0
 · rw [if_pos h0]at h ⊢
   by_cases h1:r.2.2=0
   · rw [if_pos h1];exact⟨h0,h1,rfl⟩
   · rw [if_neg h1]at h;exact absurd h h1
 · rw [if_neg h0]at h;exact absurd h h0
theorem Cs.text_up(s:Cs)(l:List UInt8)(most:Nat)(h:(s.text l most).2.er=0):s.er=0/\s.at_<(s.text l most).2.at_/\(s.text l most).1.length<=most:=by
 obtain⟨h1,h2,h3⟩:=Cs.step_er s _ h
 have h4:=txtL_ok most (l.drop s.at_) h2
 refine⟨h1,?_,?_⟩
 · show s.at_<(s.step _).at_;rw [h3];show s.at_<s.at_+(txtL most (l.drop s.at_)).2.1;omega
 · show(if s.er=0 then _ else _:List UInt8).length<=most;rw [if_pos h1];exact h4.2.2
theorem Cs.num_up(s:Cs)(l:List UInt8)(h:(s.num l).2.er=0):s.er=0/\s.at_<=(s.num l).2.at_:=by
 obtain⟨h1,h2,h3⟩:=Cs.step_er s _ h
 exact⟨h1,by show s.at_<=(s.step _).at_;rw [h3];exact Nat.le_add_right _ _⟩
theorem Cs.byte_up(s:Cs)(l:List UInt8)(h:(s.byte l).2.er=0):s.er=0/\s.at_<=(s.byte l).2.at_:=by
 have h':(s.take l 1).2.er=0:=h
 show s.er=0/\s.at_<=(s.take l 1).2.at_
 unfold Cs.take at *
 by_cases h0:s.er=0
 · rw [if_pos h0]at h' ⊢
   refine⟨h0,?_⟩
   split
   · exact Nat.le_refl _
   · exact Nat.le_add_right _ _
 · rw [if_neg h0]at h';exact absurd h' h0
theorem rd_up(wh:Bool)(b:List UInt8)(s:Cs)(h:(rdX wh b s).2.er=0):s.er=0/\s.at_<(rdX wh b s).2.at_/\(rdS wh b s).1.length<=4000/\(rdX wh b s).1.length<=4000:=by
 obtain⟨h1,h2,h3⟩:=Cs.text_up _ _ _ h
 obtain⟨h4,h5,h6⟩:=Cs.text_up _ _ _ h1
 have h2':(rdS wh b s).2.at_<(rdX wh b s).2.at_:=h2
 have h5':(rdL wh b s).2.at_<(rdS wh b s).2.at_:=h5
 have key:s.er=0/\s.at_<=(rdL wh b s).2.at_:=by
  cases wh
  · exact⟨h4,Nat.le_refl _⟩
  · obtain⟨h7,h8⟩:=Cs.byte_up _ _ h4
    obtain⟨h9,h10⟩:=Cs.num_up _ _ h7
    exact⟨h9,Nat.le_trans h10 h8⟩
 exact⟨key.1,by omega,h6,h3⟩
theorem rd_le(wh:Bool)(b:List UInt8)(s:Cs)(h:s.at_<=b.length):(rdX wh b s).2.at_<=b.length:=by
 refine Cs.text_le _ _ _ (Cs.text_le _ _ _ ?_)
 cases wh
 · exact h
 · exact Cs.take_le _ _ _ (Cs.num_le _ _ h)
def wholeR(b:List UInt8):List UInt8 × Nat:=
 if (markV b).2 = 0 then
  (if(markV b).1=1 then(if errCut b=0 then(if(cutB b).length<5 then([],1)else((cutB b).drop 5,0))else([],errCut b))else([],4))
 else([],(markV b).2)
def o1B(x:List UInt8):Nat × Cs:=(⟨0,0⟩:Cs).int x 32768
def o1P(x:List UInt8):Nat × Cs:=(o1B x).2.byte x
def o1C(x:List UInt8):Cs:=if 1<(o1P x).1 then(o1P x).2.fail 2 else(o1P x).2
def o1R(x:List UInt8):Nat × Cs:=(o1C x).int x 20000
def o1K(x:List UInt8):Nat × Cs:=(o1R x).2.int x (o1R x).1
def o1E(x:List UInt8):Nat:=if(o1K x).2.er=0 then(if 16<=(o1B x).1/\(o1B x).1<=32768 then 0 else 9)else(o1K x).2.er
def o1At(x:List UInt8):Nat->Cs
 | 0=>(o1K x).2
 | i+1=>((o1At x i).take x (blkR (x.drop (o1At x i).at_)).2.1).2
def o1L(x:List UInt8)(i:Nat):List Rec × Nat:=
 if (blkR (x.drop (o1At x i).at_)).2.2 = 0 then
  (if (recsL true (blkR (x.drop (o1At x i).at_)).1).2 = 0 then (if (recsL true (blkR (x.drop (o1At x i).at_)).1).1 = [] then ([], 2) else recsL true (blkR (x.drop (o1At x i).at_)).1)
   else ([], (recsL true (blkR (x.drop (o1At x i).at_)).1).2))
 else([],(blkR (x.drop (o1At x i).at_)).2.2)
def o1Go(x:List UInt8):Nat->Nat->List Rec->List Rec × Nat
 | 0,_,out=>(out,0)
 | k+1,i,out=>if(o1L x i).2=0 then o1Go x k (i+1) (out++(o1L x i).1)else([],(o1L x i).2)
def o1G(x:List UInt8):List Rec × Nat:=o1Go x (o1K x).1 0 []
def o1X(x:List UInt8):List Rec × Nat:=
 if (o1G x).2 = 0 then
  (if 0<x.length - (o1At x (o1K x).1).at_\/(o1G x).1.length≠(o1R x).1 then([],2)else if okLog (o1G x).1=true then((o1G x).1,0)else([],6))
 else([],(o1G x).2)
def oneE(b:List UInt8):Nat:=if(wholeR b).2=0 then(if o1E (wholeR b).1=0 then(o1X (wholeR b).1).2 else o1E (wholeR b).1)else(wholeR b).2
set_option maxRecDepth 100000
theorem whole_any(v:Value)(b:List UInt8)(w:World)(hs:See w eB v b)(hl:b.length<=1000000)(ht:Crc w) :
  Calls Tryz.prog 119 #[v] w fun e w'=>∃ u,e=.returned (.tuple #[u,.int .i64 ((wholeR b).2:Int)])/\See w' eB u (wholeR b).1/\Fr w w':=by
 have HM:=hid (OMarked_any v b w hs)
 have HC:=hid (fun W (h:Fr w W)=>Cut_any v b W (hs.fr h) hl (ht.fr h))
 have HR:Hid (wholeR b=if(markV b).2=0 then(if(markV b).1=1 then(if errCut b=0 then(if(cutB b).length<5 then([],1)else((cutB b).drop 5,0))else([],errCut b))else([],4))else([],(markV b).2)):=rfl
 obtain⟨a0,cap,hv,_⟩:=hs.shape
 subst hv
 clear hs ht
 generalize wholeR b=R at *
 generalize markV b=mv at *
 obtain⟨ver,er⟩:=mv
 generalize errCut b=ec at *
 generalize cutB b=q at *
 simp only at HM HR
 by_cases h1:er=0
 · subst h1
   by_cases h2:ver=1
   · subst h2
     by_cases h3:ec=0
     · subst h3
       by_cases h4:q.length<5
       · have HR2:Hid (R=([],1)):=by show _=_;rw [HR.out,if_pos rfl,if_pos rfl,if_pos rfl,if_pos h4]
         have j1:(q.length:Int)<5:=by omega
         clear HR h4
         go_enter Tryz.func119, Tryz.ntmps119
         go_wp2_with fail
         refine(HM.out).mono ?_
         rintro e w1 ⟨rfl,hf1⟩
         have HC1:=hid (HC.out w1 hf1)
         go_wp2_with fail
         refine(HC1.out).mono ?_
         rintro e w2 ⟨u,rfl,hO,hf2⟩
         obtain⟨p,z,hq⟩:=hO.shape'
         subst hq
         go_wp2_with fail
         go_ret2
         rw [HR2.out]
         exact⟨_,rfl,See.nil,hf1.trans hf2⟩
       · have HR2:Hid (R=(q.drop 5,0)):=by show _=_;rw [HR.out,if_pos rfl,if_pos rfl,if_pos rfl,if_neg h4]
         have j1:¬(q.length:Int)<5:=by omega
         clear HR
         go_enter Tryz.func119, Tryz.ntmps119
         go_wp2_with fail
         refine(HM.out).mono ?_
         rintro e w1 ⟨rfl,hf1⟩
         have HC1:=hid (HC.out w1 hf1)
         go_wp2_with fail
         refine(HC1.out).mono ?_
         rintro e w2 ⟨u,rfl,hO,hf2⟩
         obtain⟨p,z,hq⟩:=hO.shape'
         subst hq
         obtain⟨f1,f2,hfr,hfs⟩:=run_from eB 22 Tryz.underlying22 hO.see 5 (by omega)
         have hfr5:∀ W,(Instr.slice 22 (.slice p q.length z) (some (.int .i64 5)) none none).run Tryz.prog W=.ok (.slice f1 (q.length - 5) f2) W:=hfr
         have HFs:=hid hfs
         clear hfr hfs hO h4
         generalize q.length - 5=m at *
         go_wp2_with fail
         go_ret2
         rw [HR2.out]
         exact⟨_,rfl,HFs.out,hf1.trans hf2⟩
     · have HR2:Hid (R=([],ec)):=by show _=_;rw [HR.out,if_pos rfl,if_pos rfl,if_neg h3]
       have j1:¬(ec:Int)=0:=by omega
       clear HR h3
       go_enter Tryz.func119, Tryz.ntmps119
       go_wp2_with fail
       refine(HM.out).mono ?_
       rintro e w1 ⟨rfl,hf1⟩
       have HC1:=hid (HC.out w1 hf1)
       go_wp2_with fail
       refine(HC1.out).mono ?_
       rintro e w2 ⟨u,rfl,hO,hf2⟩
       obtain⟨p,z,hq⟩:=hO.shape'
       subst hq
       go_wp2_with fail
       go_ret2
       rw [HR2.out]
       exact⟨_,rfl,See.nil,hf1.trans hf2⟩
   · have HR2:Hid (R=([],4)):=by show _=_;rw [HR.out,if_pos rfl,if_neg h2]
     have j1:¬(ver:Int)=1:=by omega
     clear HR h2
     go_enter Tryz.func119, Tryz.ntmps119
     go_wp2_with fail
     refine(HM.out).mono ?_
     rintro e w1 ⟨rfl,hf1⟩
     go_wp2_with fail
     go_ret2
     rw [HR2.out]
     exact⟨_,rfl,See.nil,hf1⟩
 · have HR2:Hid (R=([],er)):=by show _=_;rw [HR.out,if_neg h1]
   have j1:¬(er:Int)=0:=by omega
   clear HR h1
   go_enter Tryz.func119, Tryz.ntmps119
   go_wp2_with fail
   refine(HM.out).mono ?_
   rintro e w1 ⟨rfl,hf1⟩
   go_wp2_with fail
   go_ret2
   rw [HR2.out]
   exact⟨_,rfl,See.nil,hf1⟩
set_option maxRecDepth 512
end Go.Proofs.YtghcmindankceaaGreatDoor
