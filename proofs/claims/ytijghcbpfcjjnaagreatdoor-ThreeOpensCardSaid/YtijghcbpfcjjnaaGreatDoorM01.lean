/- Parts of the proof of ThreeOpens: Elt W15 W15b W15c W17 EltJ. -/
import Derived.Test.YtijghcbpfcjjnaaGreatDoorChecked
import Derived.Test.YtijghcbpfcjjnaaGreatDoorM00
import Derived.Test.YtijghcbpfcjjnaaGreatDoorM13
set_option linter.unusedVariables false
set_option linter.unusedSectionVars false
set_option linter.unusedSimpArgs false
set_option maxHeartbeats 8000000
namespace Go.Proofs.YtijghcbpfcjjnaaGreatDoor
open Go.RowKit Go.Fk
def eB:Elt Tryz.prog UInt8:=⟨5,1,1,0,.int .u8 0,fun c=>[u8 c],by kernel_rfl,by decide,by decide,by simp [Value.cells],fun _=>rfl,by intro x u hu;simp at hu;subst hu;rfl⟩
def eS:Elt Tryz.prog (List UInt8):=⟨9,1,16,[],.string ⟨#[]⟩,fun c=>[S c],by kernel_rfl,by decide,by decide,by simp [Value.cells],fun _=>rfl,by intro x u hu;simp at hu;subst hu;rfl⟩
structure Rec where
 time:UInt64
 level:UInt8
 source:List UInt8
 text:List UInt8
 deriving DecidableEq
def Rec.cells(r:Rec):List Value:=[.int .u64 r.time.toNat,u8 r.level,S r.source,S r.text]
def eR:Elt Tryz.prog Rec:=⟨155,4,48,⟨0,0,[],[]⟩,.agg #[.int .u64 0,.int .u8 0,.string ⟨#[]⟩,.string ⟨#[]⟩],Rec.cells,by kernel_rfl,by decide,by decide,by simp [Value.cells,Rec.cells],fun _=>rfl,by intro x u hu;simp only [Rec.cells,List.mem_cons,List.not_mem_nil,or_false]at hu;rcases hu with rfl | rfl | rfl | rfl <;> rfl⟩
def OneV:Option (List UInt8)->Value
 | some r=>.tuple #[S r,.bool true]
 | none=>.tuple #[S [],.bool false]
structure Sink (k:Nat) (caps:Array Value) (I:List (List UInt8)->(Nat->Prop)->World->Prop):Prop where
 loc:∀ {ws F G w w'},I ws F w->Chg G w w'->(∀ b,F b->¬G b)->I ws F w'
 bd:∀ {ws F w},I ws F w->∀ b,F b->b<w.heap.size
 call : ∀ {ws F w} (x : List UInt8), I ws F w → x.length ≤ 24 → ws.length ≤ 2000000000 → Calls Tryz.prog k (#[S x] ++ caps) w fun e w' => e = .returned (.tuple #[]) ∧
  ∃ F',I (ws++[x]) F' w'/\Chg F w w'/\(∀ b,F' b->F b\/w.heap.size<=b)
def SI(I:List (List UInt8)->(Nat->Prop)->World->Prop)(B:Nat)(fv:Value)(row:List UInt8)(ws:List (List UInt8))(F:Nat->Prop)(w:World):Prop:=
 w.heap[B]?=some (.cells #[fv] 244 (0,0)) /\
 (∃ rv,w.heap[B+1]?=some (.cells #[rv] 22 (0,0))/\Ow w (B+2) eB rv row/\(∀ b,rv.ownBlock=some b->¬F b)) /\
 I ws F w/\¬F B/\¬F (B+1)
def rowWords(row:List UInt8):List (List UInt8):=if row=[]then []else [row.take 24]
def OutI(Bo:Nat)(pre:List (List UInt8))(g:List UInt8->List UInt8)(ws:List (List UInt8))(F:Nat->Prop)(w:World):Prop:=
 ∃ ov,w.heap[Bo]?=some (.cells #[ov] 33 (0,0))/\Ow w (Bo+1) eS ov (pre++ws.map g)/\(∀ b,F b↔b=Bo\/ov.ownBlock=some b)
theorem OutI.loc{Bo:Nat}{pre:List (List UInt8)}{g:List UInt8->List UInt8}{ws:List (List UInt8)}{F G:Nat->Prop}{w w':World}(h:OutI Bo pre g ws F w)(hc:Chg G w w')(hn:∀ b,F b->¬G b):OutI Bo pre g ws F w':=by
 obtain⟨ov,h1,h2,h3⟩:=h
 exact⟨ov,hc.heap h1 (hn _ ((h3 _).2 (.inl rfl))),h2.chg hc (fun b hb=>hn _ ((h3 _).2 (.inr hb))),h3⟩
theorem OutI.bd{Bo:Nat}{pre:List (List UInt8)}{g:List UInt8->List UInt8}{ws:List (List UInt8)}{F:Nat->Prop}{w:World}(h:OutI Bo pre g ws F w)(b:Nat)(hb:F b):b<w.heap.size:=by
 obtain⟨ov,h1,h2,h3⟩:=h
 rcases(h3 b).1 hb with e | e
 · rw [e];exact(Array.getElem?_eq_some_iff.1 h1).1
 · exact(h2.lt b e).2
theorem OutI.put{Bo:Nat}{pre:List (List UInt8)}{g:List UInt8->List UInt8}{ws:List (List UInt8)}{w w1:World}{ov:Value}{a:Option Addr}{n cap:Nat}{x:List UInt8}
  (h1:w.heap[Bo]?=some (.cells #[ov] 33 (0,0))) (h2:Ow w (Bo+1) eS ov (pre++ws.map g)) (ha:App (Bo+1) eS (pre++ws.map g++[g x]) w ov (.slice a n cap) w1) :
  ∃ F',OutI Bo pre g (ws++[x]) F' (w1.setCell ⟨Bo,0,none⟩ (.slice a n cap))/\Chg (fun b=>b=Bo\/ov.ownBlock=some b) w (w1.setCell ⟨Bo,0,none⟩ (.slice a n cap))/\(∀ b,F' b->(b=Bo\/ov.ownBlock=some b)\/w.heap.size<=b):=by
 have hne:=h2.ne_cells h1 (by decide)
 have h3:=ha.chg'.heap h1 hne
 have hne2:=ha.own.ne_cells h3 (by decide)
 have hst:=setCell_chg w1 ⟨Bo,0,none⟩ (.slice a n cap)
 refine⟨fun b=>b=Bo\/(Value.slice a n cap).ownBlock=some b,⟨_,by rw [heap_setCell_own h3];rfl,?_,fun b=>Iff.rfl⟩,?_,?_⟩
 · rw [List.map_append,<- List.append_assoc]
   exact ha.own.chg hst (by intro b hb e;simp at e;subst e;exact hne2 hb)
 · exact(ha.chg'.mono (G':=fun b=>b=Bo\/ov.ownBlock=some b) (fun b _ h=>.inr h)).trans hst (fun b _ h=>.inl h)
 · rintro b (e | e)
   · exact .inl (.inl e)
   · rcases ha.fresh b e with h | h
     · exact .inl (.inr h)
     · exact .inr h
def asIs(l:List UInt8):List UInt8:=l
def wtGo(sum:Int):List Rec->Int
 | []=>sum
 | r::l=>if sum > 1099511627776\/(r.source.length:Int) > 1099511627776\/(r.text.length:Int) > 1099511627776 then 2199023255552 else wtGo (sum+16+r.source.length+r.text.length) l
theorem recAt{w:World}{v:Value}{l:List Rec}(h:See w eR v l)(k:Nat)(hk:k<l.length) :
  ∃ b off cap,v=.slice (some ⟨b,off,none⟩) l.length cap/\w.cell? ⟨b,off+k*4,none⟩=some (.int .u64 l[k].time.toNat)/\w.cell? ⟨b,off+k*4+1,none⟩=some (u8 l[k].level)/\w.cell? ⟨b,off+k*4+2,none⟩=some (S l[k].source)/\w.cell? ⟨b,off+k*4+3,none⟩=some (S l[k].text):=by
 obtain⟨b,off,cap,rfl,h1,h2,h3⟩:=h.cells (by intro e;simp [e]at hk)
 have e0:=h3 k hk 0 (by decide) _ rfl
 have e1:=h3 k hk 1 (by decide) _ rfl
 have e2:=h3 k hk 2 (by decide) _ rfl
 have e3:=h3 k hk 3 (by decide) _ rfl
 exact⟨b,off,cap,rfl,e0,e1,e2,e3⟩
def eJ:Elt Tryz.prog Nat:=⟨3,1,8,0,.int .i64 0,fun n=>[N n],by kernel_rfl,by decide,by decide,by simp [Value.cells],fun _=>rfl,by intro x u hu;simp at hu;subst hu;rfl⟩
end Go.Proofs.YtijghcbpfcjjnaaGreatDoor
