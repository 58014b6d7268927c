/- Part 10 of the proof of hilbertMatchesReference_holds. No condition. -/
import Derived.Maps.RangeRun
import Derived.WideKeyRuns
import Derived.Test.YtialdhnijjnpaaaGreatQg9
set_option linter.unusedSimpArgs false
set_option linter.unusedVariables false
set_option maxRecDepth 100000
namespace Go.Proofs.YtialdhnijjnpaaaGreat
open Go.RowKit
open Go.ChangeMaps (setBlock)
theorem EA(em:Bool)(a:Nat->Int)(W:World):(Instr.checkKey em 10000 55 (.agg (c8 a))).run Tryz.prog W = .ok () W:=by
 obtain ⟨i,hi⟩:∃i,Tryz.prog.info? 3=some i:=Option.isSome_iff_exists.1 (by kernel_rfl)
 rw [show (10000:Nat)=9999+1 from rfl,Instr.checkKey]
 simp only [Sem.run_bind,run_underlying (show Tryz.prog.underlying 55=some (.array 8 3) by kernel_rfl),Result.andThen_ok]
 simp only [Std.Legacy.Range.forIn_eq_forIn_range',Std.Legacy.Range.size,Nat.sub_zero,Nat.add_one_sub_one,Nat.div_one]
 have each:∀j∈List.range' 0 8,j<8:=λj hj=>by simp at hj;omega
 generalize List.range' 0 8=is at each
 induction is with
 | nil=>simp
 | cons j is ih=>
  have p1:=OJ a j (each j (by simp)) W
  have p2:(Instr.checkKey em 9999 3 (.int .i64 (a j))).run Tryz.prog W = .ok () W:=by
   rw [show (9999:Nat)=9998+1 from rfl,Instr.checkKey]
   simp only [Sem.run_bind,run_underlying (show Tryz.prog.underlying 3=some (.int .i64) by kernel_rfl),Result.andThen_ok]
   rfl
  simp only [List.forIn_cons,Sem.run_bind,run_sizeOf W hi,Result.andThen_ok,p1,p2,Sem.run_pure]
  exact ih (λy hy=>each y (by simp [hy]))
def A4Y(t:Tm):Value:=.agg (c8 t.m)
theorem ZQ{a b:Nat->Int}(h:¬Eqv a b):HA a b=false:=Bool.eq_false_iff.2 λh'=>h (Da.1 h')
def MapAt(w:World)(b:Nat)(E:List Tm):Prop:=∃(es:Array MapEntry) (clock:Nat),w.heap[b]? = some (.map es clock)/\es.toList.map (·.key)=E.map A4Y/\(∀i e,es.toList[i]? = some e->RatV w e.val (tAt E i).c)/\(∀x∈es.toList,x.born<clock)/\(es.toList.map (·.born)).Nodup/\E.Pairwise λs t=>¬Eqv s.m t.m
theorem MapAt.new(w:World):MapAt (w.alloc (.map #[] 0)) w.heap.size []:=⟨#[],0,heap_alloc_new w _,rfl,λi e h=>by simp at h,λx h=>by simp at h,by simp,List.Pairwise.nil⟩
theorem MapAt.ext{w w':World}{b:Nat}{E:List Tm}(h:MapAt w b E)(he:Ext w w'):MapAt w' b E:=by
 obtain ⟨es,clock,h1,h2,h3,h4⟩:=h
 exact ⟨es,clock,(he.block (AG h1)).trans h1,h2,λi e hi=>(h3 i e hi).ext he,h4⟩
theorem MapAt.notU{w:World}{b:Nat}{E:List Tm}(h:MapAt w b E)(t:TypeId):¬Ty w b t:=λhu=>by
 obtain ⟨es,clock,h1,_⟩:=h
 obtain ⟨_,_,h2⟩:=hu
 rw [h1] at h2
 cases h2
theorem Fm(x:Value)(es:List MapEntry)(w:World):(Instr.findKey 55 x es).run Tryz.prog w=(Instr.findAsking 55 x es).run Tryz.prog w:=run_findKey_eq w (by kernel_rfl) x es
theorem LR{w:World}{b:Nat}{o o':Obj}(h:w.heap[b]? = some o):w.grownBy (setBlock w b o') (some b):=by
 refine ⟨rfl,rfl,rfl,by simp [setBlock],λk hk hne=>?_⟩
 have:k≠b:=λe=>hne (by rw [e])
 simp only [setBlock]
 rw [Array.getElem?_setIfInBounds_ne (λe=>this e.symm)]
theorem EP{w:World}{b:Nat}{o o':Obj}(h:w.heap[b]? = some o):(setBlock w b o').heap[b]? = some o':=by
 simp only [setBlock]
 rw [Array.getElem?_setIfInBounds_self,if_pos (AG h)]
theorem PY(a b:Nat->Int)(h:Eqv a b):Instr.sameBits 10000 (.agg (c8 a)) (.agg (c8 b))=true:=by
 have:c8 a=c8 b:=by unfold c8;rw [h 0 (by omega),h 1 (by omega),h 2 (by omega),h 3 (by omega),h 4 (by omega),h 5 (by omega),h 6 (by omega),h 7 (by omega)]
 rw [this]
 simp [Instr.sameBits,c8]
end Go.Proofs.YtialdhnijjnpaaaGreat
