/- Parts of the proof of ArchOne: Elt EltJ W17 W15 W15b W15c EltQ W17b. -/
import Derived.Test.YtdagmoonnbnceaaGreatDoorChecked
import Derived.Test.YtdagmoonnbnceaaGreatDoorM00
import Derived.Test.YtdagmoonnbnceaaGreatDoorM31
import Derived.Test.YtdagmoonnbnceaaGreatDoorM32
set_option linter.unusedVariables false
set_option linter.unusedSectionVars false
set_option linter.unusedSimpArgs false
set_option maxHeartbeats 8000000
set_option maxRecDepth 100000
namespace Go.Fk
open Go.RowKit
theorem cellx{w:World}{g:Nat}{cs:Array Value}{T:TypeId}{p:Nat × Nat}{v:Value}(h:w.heap[g]? = some (.cells cs T p))(i:Nat)(e:cs.toList[i]? = some v):w.cell? ⟨g,i,none⟩=some v:=by rw [cell_of_heap h,<- Array.getElem?_toList];exact e
end Go.Fk
namespace Go.Proofs.YtdagmoonnbnceaaGreatDoor
open Go.RowKit Go.Fk
def eB:Elt Tryz.prog UInt8:=⟨5,1,1,0,.int .u8 0,fun c=>[u8 c],by kernel_rfl,by decide,by decide,by simp [Value.cells],fun _=>rfl,by intro x u hu;simp at hu;subst hu;rfl⟩
def eS:Elt Tryz.prog (List UInt8):=⟨9,1,16,[],.string ⟨#[]⟩,fun c=>[S c],by kernel_rfl,by decide,by decide,by simp [Value.cells],fun _=>rfl,by intro x u hu;simp at hu;subst hu;rfl⟩
structure Rec where
 time:UInt64
 level:UInt8
 source:List UInt8
 text:List UInt8
 deriving DecidableEq
def Rec.cells(r:Rec):List Value:=[.int .u64 r.time.toNat,u8 r.level,S r.source,S r.text]
def eR:Elt Tryz.prog Rec:=⟨36,4,48,⟨0,0,[],[]⟩,.agg #[.int .u64 0,.int .u8 0,.string ⟨#[]⟩,.string ⟨#[]⟩],Rec.cells,by kernel_rfl,by decide,by decide,by simp [Value.cells,Rec.cells],fun _=>rfl,by intro x u hu;simp only [Rec.cells,List.mem_cons,List.not_mem_nil,or_false]at hu;rcases hu with rfl | rfl | rfl | rfl <;> rfl⟩
def eJ:Elt Tryz.prog Nat:=⟨3,1,8,0,.int .i64 0,fun n=>[N n],by kernel_rfl,by decide,by decide,by simp [Value.cells],fun _=>rfl,by intro x u hu;simp at hu;subst hu;rfl⟩
def wtGo(sum:Int):List Rec->Int
 | []=>sum
 | r::l=>if sum > 1099511627776\/(r.source.length:Int) > 1099511627776\/(r.text.length:Int) > 1099511627776 then 2199023255552 else wtGo (sum+16+r.source.length+r.text.length) l
theorem recAt{w:World}{v:Value}{l:List Rec}(h:See w eR v l)(k:Nat)(hk:k<l.length) :
  ∃ b off cap,v=.slice (some ⟨b,off,none⟩) l.length cap/\w.cell? ⟨b,off+k*4,none⟩=some (.int .u64 l[k].time.toNat)/\w.cell? ⟨b,off+k*4+1,none⟩=some (u8 l[k].level)/\w.cell? ⟨b,off+k*4+2,none⟩=some (S l[k].source)/\w.cell? ⟨b,off+k*4+3,none⟩=some (S l[k].text):=by
 obtain⟨b,off,cap,rfl,h1,h2,h3⟩:=h.cells (by intro e;simp [e]at hk)
 have e0:=h3 k hk 0 (by decide) _ rfl
 have e1:=h3 k hk 1 (by decide) _ rfl
 have e2:=h3 k hk 2 (by decide) _ rfl
 have e3:=h3 k hk 3 (by decide) _ rfl
 exact⟨b,off,cap,rfl,e0,e1,e2,e3⟩
theorem Weight_any(v:Value)(l:List Rec)(w:World)(hs:See w eR v l)(hl:l.length<=1000) :
  Calls Tryz.prog 21 #[v] w fun e w'=>e=.returned (.int .i64 (wtGo 0 l))/\Fr w w':=by
 obtain⟨a,cap,rfl,hcap1,hcap2,hnone⟩:=hs.shape
 go_enter Tryz.func21, Tryz.ntmps21
 go_wp2_with fail
 go_loopw [3,4] (fun sv iv wr=>∃ (k:Nat) (sum:Nat),k<=l.length/\iv=N k/\sv=N (sum:Nat)/\sum<=k*4398046511104/\wtGo 0 l=wtGo (sum:Nat) (l.drop k)/\Fr w wr) (fun _ iv _=>l.length - (intOf iv).toNat)
 case atStart=>exact⟨0,0,Nat.zero_le _,rfl,rfl,by omega,rfl,Fr.refl w⟩
 case round=>
  obtain⟨k,sum,hk,rfl,rfl,hsum,heq,hf⟩:=hrel
  by_cases hlt:k<l.length
  · obtain⟨b,off,cap',hv,c0,c1,c2,c3⟩:=recAt (hs.fr hf) k hlt
    rw [List.drop_eq_getElem_cons hlt,wtGo]at heq
    obtain⟨r,hr⟩:∃ r,l[k]=r:=⟨_,rfl⟩
    rw [hr]at c0 c1 c2 c3 heq
    have HE:=hid heq
    clear heq hr
    cases hv
    by_cases h1:(1099511627776:Int)<sum
    · have h1':(sum:Int) > 1099511627776:=h1
      go_wp2_with fail
      go_ret
      exact⟨congrArg (fun x=>Ending.returned (Value.int .i64 x)) (HE.out.trans (if_pos (.inl h1))).symm,hf⟩
    · by_cases h2:(1099511627776:Int)<r.source.length
      · go_wp2_with fail
        go_ret
        exact⟨congrArg (fun x=>Ending.returned (Value.int .i64 x)) (HE.out.trans (if_pos (.inr (.inl h2)))).symm,hf⟩
      · by_cases h3:(1099511627776:Int)<r.text.length
        · go_wp2_with fail
          go_ret
          exact⟨congrArg (fun x=>Ending.returned (Value.int .i64 x)) (HE.out.trans (if_pos (.inr (.inr h3)))).symm,hf⟩
        · have hw1:IntKind.i64.wrap ((sum:Int)+16)=(sum:Int)+16:=IntWalk.i64_in _ (by omega)
          have hw2:IntKind.i64.wrap ((sum:Int)+16+r.source.length)=(sum:Int)+16+r.source.length:=IntWalk.i64_in _ (by omega)
          have hw3:IntKind.i64.wrap ((sum:Int)+16+r.source.length+r.text.length)=(sum:Int)+16+r.source.length+r.text.length:=IntWalk.i64_in _ (by omega)
          go_upto_region 7 with fail
          go_quiet (fail)
          go_wp2_with fail
          go_roundw
          case rel=>
           refine⟨k+1,sum+16+r.source.length+r.text.length,by omega,by go_num,by simp [N],by omega,?_,by first | exact hf.drewN _ | exact hf⟩
           rw [HE.out,if_neg (by omega)];simp
          case measure=>simp [intOf];omega
  · obtain rfl:k=l.length:=by omega
    rw [List.drop_length,wtGo]at heq
    have HE:=hid heq
    clear heq
    go_wp2_with fail
    go_ret
    exact⟨congrArg (fun x=>Ending.returned (Value.int .i64 x)) HE.out.symm,hf⟩
theorem Great_any(v:Value)(l:List Rec)(w:World)(hs:See w eR v l)(a c:Nat)(ha:a<=1000) :
  Calls Tryz.prog 11 #[v,N a,N c] w fun e w'=>e=.returned (.bool (decide (a<l.length) || decide ((c:Int)<wtGo 0 l)))/\Fr w w':=by
 obtain⟨p,cap,rfl,hcap1,hcap2,hnone⟩:=hs.shape
 go_enter Tryz.func11, Tryz.ntmps11
 by_cases h:a<l.length
 · have h':(a:Int)<l.length:=by omega
   go_wp2_with fail
   go_ret
   exact⟨by simp [h],Fr.refl w⟩
 · have h':¬(a:Int)<l.length:=by omega
   go_wp2_with fail
   refine(Weight_any _ l _ hs (by omega)).mono ?_
   rintro e w' ⟨rfl,hf⟩
   go_wp2_with fail
   go_ret
   exact⟨by simp [h],hf⟩
theorem c_nat_bound(c:UInt8):(c.toNat:Int)<=255/\(0:Int)<=c.toNat:=by have:=c.toNat_lt;omega
theorem wletter_yes (c : UInt8) (w : World) (h : isL c = true) :
    Calls Tryz.prog 169 #[u8 c] w fun e w'=>e=.returned (.tuple #[u8 (sm c),.bool true])/\w=w':=by
  have hb:=c_nat_bound c
  rw [isL_iff]at h
  have hs:=sm_toNat c
  have H:Hid (((sm c).toNat:Int)=if 65<=c.toNat/\c.toNat<=90 then(c.toNat:Int)+32 else c.toNat):=by
    show _=_;rw [hs];split <;> rfl
  clear hs
  obtain⟨hb1,hb0⟩:=hb
  go_enter Tryz.func169, Tryz.ntmps169
  go_wp2_with fail
  all_goals(first | omega | skip)
  all_goals go_ret2
  all_goals refine⟨?_,rfl⟩
  all_goals unfold u8;rw [H.out]
  all_goals split
  all_goals first | rfl | omega
theorem wletter_no(c:UInt8)(w:World)(h:isL c=false) :
  Calls Tryz.prog 169 #[u8 c] w fun e w'=>e=.returned (.tuple #[.int .u8 0,.bool false])/\w=w':=by
 have hb:=c_nat_bound c
 rw [isL_not]at h
 obtain⟨hb1,hb0⟩:=hb
 go_enter Tryz.func169, Tryz.ntmps169
 go_wp2_with fail
 all_goals(first | omega | skip)
 all_goals go_ret2
 all_goals exact⟨rfl,rfl⟩
def OneV:Option (List UInt8)->Value
 | some r=>.tuple #[S r,.bool true]
 | none=>.tuple #[S [],.bool false]
theorem enters{f:FuncId}{fn:Func}{c:Code}(hf:Tryz.prog.funcs[f]? = some fn)(hname:(fn.name == "runtime.NumGoroutine")=false)(hb:fn.body=some c)(args:Array Value)(w:World):(callFunc f args).run Tryz.prog w=.ok (.enter f args) w:=by
 have h1:fn.name≠ "runtime.NumGoroutine":=by simpa using hname
 simp [callFunc,hf,h1,hb,mark]
structure Sink (k:Nat) (caps:Array Value) (I:List (List UInt8)->(Nat->Prop)->World->Prop):Prop where
 loc:∀ {ws F G w w'},I ws F w->Chg G w w'->(∀ b,F b->¬G b)->I ws F w'
 bd:∀ {ws F w},I ws F w->∀ b,F b->b<w.heap.size
 call : ∀ {ws F w} (x : List UInt8), I ws F w → x.length ≤ 24 → ws.length ≤ 2000000000 → Calls Tryz.prog k (#[S x] ++ caps) w fun e w' => e = .returned (.tuple #[]) ∧
  ∃ F',I (ws++[x]) F' w'/\Chg F w w'/\(∀ b,F' b->F b\/w.heap.size<=b)
def SI(I:List (List UInt8)->(Nat->Prop)->World->Prop)(B:Nat)(fv:Value)(row:List UInt8)(ws:List (List UInt8))(F:Nat->Prop)(w:World):Prop:=
 w.heap[B]? = some (.cells #[fv] 215 (0,0)) /\
 (∃ rv,w.heap[B+1]? = some (.cells #[rv] 27 (0,0))/\Ow w (B+2) eB rv row/\(∀ b,rv.ownBlock=some b->¬F b)) /\
 I ws F w/\¬F B/\¬F (B+1)
def rowWords(row:List UInt8):List (List UInt8):=if row=[]then []else [row.take 24]
theorem tell_any{k:Nat}{caps:Array Value}{I:List (List UInt8)->(Nat->Prop)->World->Prop}(hk:Sink k caps I)(hent:∀ args w,(callFunc k args).run Tryz.prog w=.ok (.enter k args) w)(B:Nat)(row:List UInt8)(ws:List (List UInt8))(F:Nat->Prop)(w:World)
  (h:SI I B (.func (.func k) #[] caps) row ws F w) (hlen:ws.length<=2000000000) (hr:row.length<=2147483648) :
  Calls Tryz.prog 168 #[.pointer (some ⟨B+1,0,none⟩),.pointer (some ⟨B,0,none⟩)] w fun e w'=>e=.returned (.tuple #[]) /\
   ∃ F',SI I B (.func (.func k) #[] caps) [] (ws++rowWords row) F' w'/\Chg (fun b=>F b\/b=B+1) w w'/\(∀ b,F' b->F b\/w.heap.size<=b):=by
 obtain⟨h1,⟨rv,h2,h3,h4⟩,h5,h6,h7⟩:=h
 have c0:=cellx h1 0 rfl
 have c1:=cellx h2 0 rfl
 have f1:w.frozen? ⟨B+1,0,none⟩=false:=frozen_of_heap h2 0
 have H1:=hid h1
 have H2:=hid h2
 clear h1 h2
 by_cases hrow:row=[]
 · subst hrow
   obtain⟨a,cap,rfl⟩:=h3.shape'
   have h0:((0:Int)<([]:List UInt8).length)=False:=by simp
   go_enter Tryz.func168, Tryz.ntmps168
   go_wp2_with fail
   go_end0
   have hst:=setCell_chg w ⟨B+1,0,none⟩ (.slice a 0 cap)
   have hsz:B+1<w.heap.size:=(Array.getElem?_eq_some_iff.1 H2.out).1
   have hne:=h3.ne_cells H2.out (by decide)
   refine⟨rfl,F,⟨hst.heap H1.out (by simp),⟨_,by rw [heap_setCell_own H2.out];rfl,?_,h4⟩,?_,h6,h7⟩,?_,fun b hb=>.inl hb⟩
   · exact h3.chg hst (by intro b hb e;simp at e;subst e;exact hne hb)
   · rw [show ws++rowWords []=ws by simp [rowWords]]
     exact hk.loc h5 hst (by intro b hb e;simp at e;subst e;exact h7 hb)
   · exact hst.mono (fun b _ h=>.inr h)
 · obtain⟨g,cap,rfl,hg1,hg2,hg3,hg4⟩:=h3.atHead hrow
   unfold maxLen at hg4
   have hp:0<row.length:=by cases row <;> simp_all
   have hlen24:∃ m:Nat,(row.take 24).length=m/\(if(24:Int)<row.length then(24:Int)else row.length)=m/\m<=cap/\m<=row.length:=by
    refine⟨min 24 row.length,by simp,?_,by omega,by omega⟩
    split <;> omega
   obtain⟨m,hm0,hm,hmc,hmr⟩:=hlen24
   have hm1:(m:Int)<=cap:=by omega
   have htk:row.take m=row.take 24:=by rw [<- hm0,List.length_take,<- List.take_eq_take_min]
   have hsee:See w eB (.slice (some ⟨g,0,none⟩) m cap) (row.take 24):=by rw [<- htk];exact h3.see.take hmr
   have hcv:=run_conv_see eB w.drew 27 9 Tryz.underlying27 Tryz.underlying5 Tryz.underlying9 rfl rfl hsee.drew
   have HX:Hid ((row.take 24).length<=24):=by show _<=_;simp;omega
   clear htk hm0 hsee
   generalize hx:row.take 24=x at hcv HX
   have HXE:=hid hx
   clear hx
   go_enter Tryz.func168, Tryz.ntmps168
   go_upto_region 1 with fail
   go_still_tail 7,(by kernel_rfl)
   change wpList _ _ _ _ _ w.drew
   go_wp2_with fail
   refine(hk.call x (hk.loc h5 (drew_chg (fun _=>False) w 1) (fun _ _ h=>h)) HX.out hlen).mono ?_
   rintro e w1 ⟨rfl,F',hI,hc,hF⟩
   have hcw:Chg F w w1:=(drew_chg F w 1).trans hc (fun _ _ h=>h)
   have hs1:w.heap.size<=w1.heap.size:=hc.size
   have HH1:Hid (w1.heap[B+1]? = some (.cells #[.slice (some ⟨g,0,none⟩) row.length cap] 27 (0,0))):=hcw.heap H2.out h7
   have d1:w1.cell? ⟨B+1,0,none⟩=some (.slice (some ⟨g,0,none⟩) row.length cap):=by rw [cell_of_heap HH1.out];rfl
   have e1:w1.frozen? ⟨B+1,0,none⟩=false:=frozen_of_heap HH1.out 0
   have hI1:=hid hI
   clear hI
   go_wp2_with fail
   go_end0
   have hsz:B+1<w.heap.size:=(Array.getElem?_eq_some_iff.1 H2.out).1
   have hF1:∀ b,b<w.heap.size->¬F b->¬F' b:=by
    intro b hb hn h
    rcases hF b h with h | h
    · exact hn h
    · have:(w.drewN 1).heap.size=w.heap.size:=rfl
      omega
   have hst:=setCell_chg w1 ⟨B+1,0,none⟩ (.slice (some ⟨g,0,none⟩) 0 cap)
   refine⟨rfl,F',⟨?_,⟨_,by rw [heap_setCell_own HH1.out];rfl,?_,?_⟩,?_,hF1 _ (by omega) h6,hF1 _ (by omega) h7⟩,?_,fun b hb=>(hF b hb)⟩
   · exact hst.heap (hcw.heap H1.out h6) (by simp)
   · have h8:=(h3.chg hcw (by intro b hb;exact h4 b hb)).take (j:=0) (Nat.zero_le _)
     exact(h8.chg hst (by intro b hb e;simp only [Value.ownBlock,Option.some.injEq]at hb;simp at e;omega)) 
   · intro b hb
     simp only [Value.ownBlock,Option.some.injEq]at hb
     subst hb
     exact hF1 _ hg2 (h4 _ rfl)
   · unfold rowWords
     rw [if_neg hrow,HXE.out]
     exact hk.loc hI1.out hst (by intro b hb e;simp at e;subst e;exact hF1 _ (by omega) h7 hb)
   · exact(hcw.mono (fun b _ h=>.inl h)).trans hst (fun b _ h=>.inr h)
theorem rowWords_map(raw:List UInt8):rowWords (raw.map sm)=if raw=[]then []else [(raw.map sm).take 24]:=by
 unfold rowWords
 cases raw <;> simp
theorem wordsGo_end(raw:List UInt8):wordsGo raw []=rowWords (raw.map sm):=by rw [rowWords_map,wordsGo]
theorem wordsGo_letter(raw s:List UInt8)(i:Nat)(h:i<s.length)(hc:isL s[i]=true):wordsGo raw (s.drop i)=wordsGo (raw++[s[i]]) (s.drop (i+1)):=by
 rw [List.drop_eq_getElem_cons h,wordsGo,if_pos hc]
theorem wordsGo_other(raw s:List UInt8)(i:Nat)(h:i<s.length)(hc:isL s[i]=false):wordsGo raw (s.drop i)=rowWords (raw.map sm)++wordsGo [] (s.drop (i+1)):=by
 rw [List.drop_eq_getElem_cons h,wordsGo,hc,rowWords_map];rfl
theorem rowWords_length(row:List UInt8):(rowWords row).length<=1:=by unfold rowWords;split <;> simp
theorem split_any {k : Nat} {caps : Array Value} {I : List (List UInt8) → (Nat → Prop) → World → Prop} (hk : Sink k caps I) (hent : ∀ args w, (callFunc k args).run Tryz.prog w = .ok (.enter k args) w) (s : List UInt8) (ws : List (List UInt8)) (F : Nat → Prop) (w : World)
    (h:I ws F w) (hlen:ws.length+s.length<=2000000000) :
    Calls Tryz.prog 123 #[S s,.func (.func k) #[] caps] w fun e w'=>e=.returned (.tuple #[]) /\
      ∃ F',I (ws++wordsOf s) F' w'/\Chg F w w'/\(∀ b,F' b->F b\/w.heap.size<=b):=by
  have hmf:∀ (fn:Fn) (first cap:Array Value) (w:World),(Instr.makeFunc fn first cap).run Tryz.prog w=.ok (.func fn first cap) w:=fun _ _ _ _=>rfl
  have hbd:=hk.bd h
  go_enter Tryz.func123, Tryz.ntmps123
  go_wp2_with fail
  go_loopw [12] (fun iv wr => ∃ (i : Nat) (raw : List UInt8) (ws' : List (List UInt8)) (F' : Nat → Prop), i ≤ s.length ∧ iv = N i ∧ SI I w.heap.size (.func (.func k) #[] caps) (raw.map sm) ws' F' wr ∧
      Hid (ws ++ wordsOf s = ws' ++ wordsGo raw (s.drop i)) ∧ Chg F w wr ∧ (∀ b, F' b → F b ∨ w.heap.size ≤ b) ∧ ws'.length ≤ ws.length + i ∧ raw.length ≤ i)
    (fun iv _=>s.length - (intOf iv).toNat)
  case atStart=>
    refine⟨0,[],ws,F,Nat.zero_le _,rfl,⟨?_,⟨.slice none 0 0,?_,Ow.nil,by intro b hb;cases hb⟩,?_,?_,?_⟩,hid rfl,?_,fun b hb=>.inl hb,by omega,by simp⟩
    · rw [heap_old _ _ _ (by simp),heap_new _ _ _ rfl]
    · rw [heap_new _ _ _ (by simp)]
    · exact hk.loc h ((((Fr.refl w).alloc _).alloc _).chg (fun _=>False)) (fun _ _ h=>h)
    · intro hb;have:=hbd _ hb;omega
    · intro hb;have:=hbd _ hb;omega
    · exact(((Fr.refl w).alloc _).alloc _).chg F
  case round=>
    obtain⟨i,raw,ws',F',hi,rfl,hSI,hws,hch,hF,hwl,hrl⟩:=hrel
    have HS:=hid hSI
    clear hSI
    by_cases hlt:i<s.length
    · cases hc:isL s[i]with
      | true=>
        have HW:=hid (wordsGo_letter raw s i hlt hc)
        obtain⟨h1,⟨rv,h2,h3,h4⟩,h5,h6,h7⟩:=HS.out
        have c1:=cellx h2 0 rfl
        have H1:=hid h1
        have H2:=hid h2
        clear h1 h2
        go_wp2_with fail
        refine(wletter_yes s[i] _ hc).mono ?_
        rintro e w' ⟨rfl,rfl⟩
        go_wp2_with (at_builtin;refine wpList_app1 eB rfl (.tmp 23) (.tmp 25) 27 rfl Tryz.underlying27 (w.heap.size+2) rfl h3 [sm s[i]] _ _ _ rfl rfl rfl ?c1 ?c2 ?_)
        case c1=>simp;omega
        case c2=>have:=(Array.getElem?_eq_some_iff.1 H2.out).1;omega
        intro v' w1 ha
        have hne:=h3.ne_cells H2.out (by decide)
        have HH:Hid (w1.heap[w.heap.size+1]? = some (.cells #[rv] 27 (0,0))):=ha.chg'.heap H2.out hne
        have d1:w1.cell? ⟨w.heap.size+1,0,none⟩=some rv:=by rw [cell_of_heap HH.out];rfl
        have e1:w1.frozen? ⟨w.heap.size+1,0,none⟩=false:=frozen_of_heap HH.out 0
        obtain⟨a,n',cap,rfl⟩:=ha.own.shape
        go_wp2_with fail
        go_roundw
        case rel=>
          have hst:=setCell_chg w1 ⟨w.heap.size+1,0,none⟩ (.slice a n' cap)
          have hne2:=ha.own.ne_cells HH.out (by decide)
          have hap:∀ b,rv.ownBlock=some b->¬F' b:=h4
          have hbd':=hk.bd h5
          have hapn:∀ b,(Value.slice a n' cap).ownBlock=some b->¬F' b:=by
            intro b hb hb2
            rcases ha.fresh b hb with h | h
            · exact h4 b h hb2
            · have:=hbd' b hb2;omega
          refine⟨i+1,raw++[s[i]],ws',F',by omega,by go_num,⟨?_,⟨_,by rw [heap_setCell_own HH.out];rfl,?_,?_⟩,?_,h6,h7⟩,hid (by rw [hws.out,HW.out]),?_,hF,by omega,by simp;omega⟩
          · exact hst.heap (ha.chg'.heap H1.out (h3.ne_cells H1.out (by decide))) (by simp)
          · rw [List.map_append]
            exact ha.own.chg hst (by intro b hb e;simp at e;subst e;exact hne2 hb)
          · exact hapn
          · refine hk.loc (hk.loc h5 ha.chg' (fun b hb e=>h4 b e hb)) hst (by intro b hb e;simp at e;subst e;exact h7 hb)
          · refine(hch.trans ha.chg' ?_).trans hst ?_
            · intro b hb e;have:=(h3.lt b e).1;omega
            · intro b hb e;simp at e;omega
        case measure=>simp [intOf];omega
      | false=>
        have HW:=hid (wordsGo_other raw s i hlt hc)
        go_wp2_with fail
        refine(wletter_no s[i] _ hc).mono ?_
        rintro e w' ⟨rfl,rfl⟩
        go_wp2_with fail
        refine(tell_any hk hent w.heap.size (raw.map sm) ws' F' _ HS.out (by omega) (by simp;omega)).mono ?_
        rintro e w1 ⟨rfl,F2,hS2,hc2,hF2⟩
        have HS2:=hid hS2
        have HF2:=hid hF2
        clear hS2 hF2
        go_wp2_with fail
        go_roundw
        case rel=>
          have hsz:=hch.size
          refine⟨i+1,[],_,F2,by omega,by go_num,HS2.out,hid (by rw [hws.out,HW.out];simp),hch.trans hc2 ?_,?_,by have:=rowWords_length (raw.map sm);simp;omega,by simp⟩
          · intro b hb e
            rcases e with e | e
            · rcases hF b e with h | h
              · exact h
              · omega
            · omega
          · intro b hb
            rcases HF2.out b hb with h | h
            · exact hF b h
            · right;omega
        case measure=>simp [intOf];omega
    · obtain rfl:i=s.length:=by omega
      have HE:Hid (ws++wordsOf s=ws'++rowWords (raw.map sm)):=by show _=_;rw [hws.out,List.drop_length,wordsGo_end]
      go_wp2_with fail
      refine(tell_any hk hent w.heap.size (raw.map sm) ws' F' _ HS.out (by omega) (by simp;omega)).mono ?_
      rintro e w1 ⟨rfl,F2,hS2,hc2,hF2⟩
      have HS2:=hid hS2
      have HF2:=hid hF2
      clear hS2 hF2
      go_wp2_with fail
      go_end0
      have hsz:=hch.size
      refine⟨rfl,F2,?_,hch.trans hc2 ?_,?_⟩
      · rw [HE.out];exact HS2.out.2.2.1
      · intro b hb e
        rcases e with e | e
        · rcases hF b e with h | h
          · exact h
          · omega
        · omega
      · intro b hb
        rcases HF2.out b hb with h | h
        · exact hF b h
        · right;omega
def OutI(Bo:Nat)(pre:List (List UInt8))(g:List UInt8->List UInt8)(ws:List (List UInt8))(F:Nat->Prop)(w:World):Prop:=
 ∃ ov,w.heap[Bo]? = some (.cells #[ov] 92 (0,0))/\Ow w (Bo+1) eS ov (pre++ws.map g)/\(∀ b,F b↔b=Bo\/ov.ownBlock=some b)
theorem OutI.loc{Bo:Nat}{pre:List (List UInt8)}{g:List UInt8->List UInt8}{ws:List (List UInt8)}{F G:Nat->Prop}{w w':World}(h:OutI Bo pre g ws F w)(hc:Chg G w w')(hn:∀ b,F b->¬G b):OutI Bo pre g ws F w':=by
 obtain⟨ov,h1,h2,h3⟩:=h
 exact⟨ov,hc.heap h1 (hn _ ((h3 _).2 (.inl rfl))),h2.chg hc (fun b hb=>hn _ ((h3 _).2 (.inr hb))),h3⟩
theorem OutI.bd{Bo:Nat}{pre:List (List UInt8)}{g:List UInt8->List UInt8}{ws:List (List UInt8)}{F:Nat->Prop}{w:World}(h:OutI Bo pre g ws F w)(b:Nat)(hb:F b):b<w.heap.size:=by
 obtain⟨ov,h1,h2,h3⟩:=h
 rcases(h3 b).1 hb with e | e
 · rw [e];exact(Array.getElem?_eq_some_iff.1 h1).1
 · exact(h2.lt b e).2
theorem OutI.put{Bo:Nat}{pre:List (List UInt8)}{g:List UInt8->List UInt8}{ws:List (List UInt8)}{w w1:World}{ov:Value}{a:Option Addr}{n cap:Nat}{x:List UInt8}
  (h1:w.heap[Bo]? = some (.cells #[ov] 92 (0,0))) (h2:Ow w (Bo+1) eS ov (pre++ws.map g)) (ha:App (Bo+1) eS (pre++ws.map g++[g x]) w ov (.slice a n cap) w1) :
  ∃ F',OutI Bo pre g (ws++[x]) F' (w1.setCell ⟨Bo,0,none⟩ (.slice a n cap))/\Chg (fun b=>b=Bo\/ov.ownBlock=some b) w (w1.setCell ⟨Bo,0,none⟩ (.slice a n cap))/\(∀ b,F' b->(b=Bo\/ov.ownBlock=some b)\/w.heap.size<=b):=by
 have hne:=h2.ne_cells h1 (by decide)
 have h3:=ha.chg'.heap h1 hne
 have hne2:=ha.own.ne_cells h3 (by decide)
 have hst:=setCell_chg w1 ⟨Bo,0,none⟩ (.slice a n cap)
 refine⟨fun b=>b=Bo\/(Value.slice a n cap).ownBlock=some b,⟨_,by rw [heap_setCell_own h3];rfl,?_,fun b=>Iff.rfl⟩,?_,?_⟩
 · rw [List.map_append,<- List.append_assoc]
   exact ha.own.chg hst (by intro b hb e;simp at e;subst e;exact hne2 hb)
 · exact(ha.chg'.mono (G':=fun b=>b=Bo\/ov.ownBlock=some b) (fun b _ h=>.inr h)).trans hst (fun b _ h=>.inl h)
 · rintro b (e | e)
   · exact .inl (.inl e)
   · rcases ha.fresh b e with h | h
     · exact .inl (.inr h)
     · exact .inr h
def asIs(l:List UInt8):List UInt8:=l
def stpCells(s:Stp):List Value:=[.int .i64 s.op,.int .i64 s.n,S s.word,.int .u64 s.fa.toNat,.int .u64 s.fb.toNat]
abbrev stpV(s:Stp):Value:=.agg #[.int .i64 s.op,.int .i64 s.n,S s.word,.int .u64 s.fa.toNat,.int .u64 s.fb.toNat]
def eI:Elt Tryz.prog Int:=⟨3,1,8,0,.int .i64 0,fun n=>[.int .i64 n],by kernel_rfl,by decide,by decide,by simp [Value.cells],fun _=>rfl,by intro x u hu;simp at hu;subst hu;rfl⟩
theorem Same_any(va vb:Value)(la lb:List Rec)(w:World)(ha:See w eR va la)(hb:See w eR vb lb)(hl:la.length<=1000000000) :
  Calls Tryz.prog 8 #[va,vb] w fun e w'=>e=.returned (.bool (decide (la=lb)))/\Fr w w':=by
 obtain⟨aa,ca,hva,hca1,hca2,hna⟩:=ha.shape
 obtain⟨ab,cb,hvb,hcb1,hcb2,hnb⟩:=hb.shape
 subst hva hvb
 go_enter Tryz.func8, Tryz.ntmps8
 by_cases hle:la.length=lb.length
 · have hle':=(by simp [hle]:((la.length:Int) == lb.length)=true)
   have HLE:=hid hle
   clear hle
   go_wp2_with fail
   go_loopw [5] (fun iv wr=>∃ k:Nat,k<=la.length/\iv=N k/\Hid (la.take k=lb.take k)/\Fr w wr) (fun iv _=>la.length - (intOf iv).toNat)
   case atStart=>exact⟨0,Nat.zero_le _,rfl,rfl,Fr.refl w⟩
   case round=>
    obtain⟨k,hk,rfl,HT,hf⟩:=hrel
    by_cases hlt:k<la.length
    · have hlt2:k<lb.length:=by have:=HLE.out;omega
      obtain⟨b1,o1,cap1,hv1,c0,c1,c2,c3⟩:=recAt (ha.fr hf) k hlt
      obtain⟨b2,o2,cap2,hv2,d0,d1,d2,d3⟩:=recAt (hb.fr hf) k hlt2
      obtain⟨⟨t1,l1,s1,x1⟩,hr⟩:∃ r,la[k]=r:=⟨_,rfl⟩
      obtain⟨⟨t2,l2,s2,x2⟩,hq⟩:∃ q,lb[k]=q:=⟨_,rfl⟩
      rw [hr]at c0 c1 c2 c3
      rw [hq]at d0 d1 d2 d3
      simp only at c0 c1 c2 c3 d0 d1 d2 d3
      have i1:(0:Int)<=k:=by omega
      have i2:(k:Int)<la.length:=by omega
      have i3:(k:Int)<lb.length:=by omega
      have HR:=hid hr
      have HQ:=hid hq
      clear hr hq
      cases hv1
      cases hv2
      by_cases e1:t1=t2
      · subst e1
        by_cases e2:l1=l2
        · subst e2
          by_cases e3:s1=s2
          · subst e3
            by_cases e4:x1=x2
            · subst e4
              have HK:Hid (la.take (k+1)=lb.take (k+1)):=by
               show _=_;rw [List.take_succ_eq_append_getElem hlt,List.take_succ_eq_append_getElem hlt2,HT.out,HR.out,HQ.out]
              clear HR HQ
              go_wp2_with fail
              go_quiet (fail)
              go_wp2_with fail
              go_roundw
              case rel=>exact⟨k+1,by omega,by go_num,HK,hf.drewN _⟩
              case measure=>simp [intOf];omega
            · have HE:Hid (decide (la=lb)=false):=by show _=_;simp;intro e;subst e;exact e4 (by have:=HR.out.symm.trans HQ.out;simp at this;simp [this])
              clear HR HQ
              go_wp2_with fail
              go_quiet (fail)
              go_wp2_with fail
              go_ret
              exact⟨by rw [HE.out];rfl,hf.drewN _⟩
          · have HE:Hid (decide (la=lb)=false):=by show _=_;simp;intro e;subst e;exact e3 (by have:=HR.out.symm.trans HQ.out;simp at this;simp [this])
            clear HR HQ
            go_wp2_with fail
            go_quiet (fail)
            go_wp2_with fail
            go_ret
            exact⟨by rw [HE.out];rfl,hf.drewN _⟩
        · have e2':¬((l1.toNat:Int)=l2.toNat):=fun h=>e2 (UInt8.toNat_inj.1 (by omega))
          have HE:Hid (decide (la=lb)=false):=by show _=_;simp;intro e;subst e;exact e2 (by have:=HR.out.symm.trans HQ.out;simp at this;simp [this])
          clear HR HQ
          go_wp2_with fail
          go_quiet (fail)
          go_wp2_with fail
          go_ret
          exact⟨by rw [HE.out];rfl,hf.drewN _⟩
      · have e1':¬((t1.toNat:Int)=t2.toNat):=fun h=>e1 (UInt64.toNat_inj.1 (by omega))
        have HE:Hid (decide (la=lb)=false):=by show _=_;simp;intro e;subst e;exact e1 (by have:=HR.out.symm.trans HQ.out;simp at this;simp [this])
        clear HR HQ
        go_wp2_with fail
        go_quiet (fail)
        go_wp2_with fail
        go_ret
        exact⟨by rw [HE.out];rfl,hf.drewN _⟩
    · have HE:Hid (decide (la=lb)=true):=by
        show _=_;simp;have h1:=HT.out;rw [List.take_of_length_le (by omega),List.take_of_length_le (by have:=HLE.out;omega)]at h1;exact h1
      go_wp2_with fail
      go_ret
      exact⟨by rw [HE.out];rfl,hf⟩
 · have hle':=(by simp;omega:((la.length:Int) == lb.length)=false)
   have HE:Hid (decide (la=lb)=false):=by show _=_;simp;intro e;exact hle (by rw [e])
   clear hle
   go_wp2_with fail
   go_ret
   exact⟨by rw [HE.out];rfl,Fr.refl _⟩
end Go.Proofs.YtdagmoonnbnceaaGreatDoor
