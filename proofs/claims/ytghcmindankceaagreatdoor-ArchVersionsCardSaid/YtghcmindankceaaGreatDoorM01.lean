/- Parts of the proof of ArchVersions: Elt W17 EltJ EltQ. -/
import Derived.Test.YtghcmindankceaaGreatDoorChecked
import Derived.Test.YtghcmindankceaaGreatDoorM00
import Derived.Test.YtghcmindankceaaGreatDoorM41
set_option linter.unusedVariables false
set_option linter.unusedSectionVars false
set_option linter.unusedSimpArgs false
set_option maxHeartbeats 8000000
namespace Go.Proofs.YtghcmindankceaaGreatDoor
open Go.RowKit Go.Fk
def eB:Elt Tryz.prog UInt8:=⟨5,1,1,0,.int .u8 0,fun c=>[u8 c],by kernel_rfl,by decide,by decide,by simp [Value.cells],fun _=>rfl,by intro x u hu;simp at hu;subst hu;rfl⟩
def eS:Elt Tryz.prog (List UInt8):=⟨9,1,16,[],.string ⟨#[]⟩,fun c=>[S c],by kernel_rfl,by decide,by decide,by simp [Value.cells],fun _=>rfl,by intro x u hu;simp at hu;subst hu;rfl⟩
structure Rec where
 time:UInt64
 level:UInt8
 source:List UInt8
 text:List UInt8
 deriving DecidableEq
def Rec.cells(r:Rec):List Value:=[.int .u64 r.time.toNat,u8 r.level,S r.source,S r.text]
def eR:Elt Tryz.prog Rec:=⟨63,4,48,⟨0,0,[],[]⟩,.agg #[.int .u64 0,.int .u8 0,.string ⟨#[]⟩,.string ⟨#[]⟩],Rec.cells,by kernel_rfl,by decide,by decide,by simp [Value.cells,Rec.cells],fun _=>rfl,by intro x u hu;simp only [Rec.cells,List.mem_cons,List.not_mem_nil,or_false]at hu;rcases hu with rfl | rfl | rfl | rfl <;> rfl⟩
def wtGo(sum:Int):List Rec->Int
 | []=>sum
 | r::l=>if sum > 1099511627776\/(r.source.length:Int) > 1099511627776\/(r.text.length:Int) > 1099511627776 then 2199023255552 else wtGo (sum+16+r.source.length+r.text.length) l
theorem recAt{w:World}{v:Value}{l:List Rec}(h:See w eR v l)(k:Nat)(hk:k<l.length) :
  ∃ b off cap,v=.slice (some ⟨b,off,none⟩) l.length cap/\w.cell? ⟨b,off+k*4,none⟩=some (.int .u64 l[k].time.toNat)/\w.cell? ⟨b,off+k*4+1,none⟩=some (u8 l[k].level)/\w.cell? ⟨b,off+k*4+2,none⟩=some (S l[k].source)/\w.cell? ⟨b,off+k*4+3,none⟩=some (S l[k].text):=by
 obtain⟨b,off,cap,rfl,h1,h2,h3⟩:=h.cells (by intro e;simp [e]at hk)
 have e0:=h3 k hk 0 (by decide) _ rfl
 have e1:=h3 k hk 1 (by decide) _ rfl
 have e2:=h3 k hk 2 (by decide) _ rfl
 have e3:=h3 k hk 3 (by decide) _ rfl
 exact⟨b,off,cap,rfl,e0,e1,e2,e3⟩
def eJ:Elt Tryz.prog Nat:=⟨3,1,8,0,.int .i64 0,fun n=>[N n],by kernel_rfl,by decide,by decide,by simp [Value.cells],fun _=>rfl,by intro x u hu;simp at hu;subst hu;rfl⟩
def stpCells(s:Stp):List Value:=[.int .i64 s.op,.int .i64 s.n,S s.word,.int .u64 s.fa.toNat,.int .u64 s.fb.toNat]
abbrev stpV(s:Stp):Value:=.agg #[.int .i64 s.op,.int .i64 s.n,S s.word,.int .u64 s.fa.toNat,.int .u64 s.fb.toNat]
def eI:Elt Tryz.prog Int:=⟨3,1,8,0,.int .i64 0,fun n=>[.int .i64 n],by kernel_rfl,by decide,by decide,by simp [Value.cells],fun _=>rfl,by intro x u hu;simp at hu;subst hu;rfl⟩
end Go.Proofs.YtghcmindankceaaGreatDoor
