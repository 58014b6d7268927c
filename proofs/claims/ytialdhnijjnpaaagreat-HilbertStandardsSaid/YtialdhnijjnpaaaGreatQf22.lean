/- Part 22 of the proof of hilbertStandards_holds. No condition. -/
import Derived.LoopIn
import Derived.LoopNIn
import Derived.OwnWalkIn
import Derived.RangeFuncGives
import Derived.RegionIn
import Derived.Sort.MapsRangeIn
import Derived.TacticsInMore
import Derived.WalkKit
import Derived.Test.YtialdhnijjnpaaaGreatQf14
set_option linter.unusedSimpArgs false
set_option linter.unusedVariables false
set_option maxRecDepth 100000
set_option maxHeartbeats 3200000
namespace Go.Proofs.YtialdhnijjnpaaaGreat
open Go.RowKit
open Go.ChangeMaps (setBlock)
theorem Hm {F : Fence} {n:Nat} {P:Program} {w w':World} {ops:Array Oper} {rest:List Oper} {o:Oper} {a:Act} {Q:Exit→Act→World→Prop} (hg:o.guard = none) (m:Operand) (t:TypeId) (hop:o.op = Op.range t m) {vm v:Value} (hm:a.eval m = vm)
  (hr:(Instr.range t vm).run P w = .ok v w') (h:wpListIn F n P ops Q rest (a.put o.dst v) w'):wpListIn F n P ops Q (o :: rest) a w:=by
 refine wpListIn_plain hg fun K' hK'=>?_
 unfold Oper.wpIn
 refine ⟨by simp [Oper.about,hop],?_⟩
 rw [Oper.semAt_plain F _ _ (by rw [hop];intro c hc';cases hc')]
 simp [execOp,hop,hm,hr,Result.andThen]
 exact hK' _ _ h
theorem Fi {F : Fence} {n:Nat} {P:Program} {w w':World} {ops:Array Oper} {rest:List Oper} {o:Oper} {a:Act} {Q:Exit→Act→World→Prop} (hg:o.guard = none) (it:Operand) (hop:o.op = Op.next it false) {vi v:Value} (hm:a.eval it = vi)
  (hr:(Instr.next vi false o.type).run P w = .ok v w') (h:wpListIn F n P ops Q rest (a.put o.dst v) w'):wpListIn F n P ops Q (o :: rest) a w:=by
 refine wpListIn_plain hg fun K' hK'=>?_
 unfold Oper.wpIn
 refine ⟨by simp [Oper.about,hop],?_⟩
 rw [Oper.semAt_plain F _ _ (by rw [hop];intro c hc';cases hc')]
 simp [execOp,hop,hm,hr,Result.andThen]
 exact hK' _ _ h
def Li (a : Nat→Int):Value:=.agg (c8 a)
abbrev Sw (K : List (Nat→Int)) (i:Nat):Nat→Int:=K.getD i default
def Zy (b it clock:Nat) (es:Array MapEntry) (K:List (Nat→Int)) (J:List (Nat→Int)→World→Prop) (wr:World) (I:List Nat):Prop :=
 I.Nodup∧(∀ i∈I,i<K.length)∧wr.heap[it]? = some (.mapIter (some b) clock (Dd es I) clock)∧wr.heap[b]? = some (.map es clock)∧it<wr.heap.size∧J (I.map (Sw K)) wr
theorem Um {K : List (Nat→Int)} {I:List Nat} (h1:I.Nodup) (h2:∀ i∈I,i<K.length) (h3:∀ i,i<K.length→i∈I):(I.map (Sw K)).Perm K:=by
 have hI:I.Perm (List.range K.length):=(List.perm_ext_iff_of_nodup h1 List.nodup_range).2 fun i=>by
  constructor
  ·intro hi;simpa using h2 i hi
  ·intro hi;exact h3 i (by simpa using hi)
 have hE:(List.range K.length).map (Sw K) = K:=by
  refine List.ext_getElem (by simp) fun i q1 q2=>?_
  simp only [List.getElem_map,List.getElem_range]
  rw [Sw,List.getD_eq_getElem?_getD,List.getElem?_eq_getElem q2]
  rfl
 have:=hI.map (Sw K)
 rwa [hE] at this
theorem SD (n : Nat) (hn:1≤n) (l Bm b clock:Nat) (es:Array MapEntry) (K:List (Nat→Int)) (J:List (Nat→Int)→World→Prop)
  (hY:∀ pre x W,J pre W→pre.length<K.length→YieldAt Fence.wide (n - 1) Tryz.prog l #[Li x] W fun e W'=>e = .returned (.bool true)∧J (pre ++ [x]) W'∧KeepsWalks W W')
  (W:World) (hJ:AbidesFrom W.heap.size J) (hm:W.cell? ⟨Bm,0,none⟩ = some (.map (some b))) (hb:W.heap[b]? = some (.map es clock)) (hkeys:es.toList.map (·.key) = K.map Li) (hborn:∀ x∈es.toList,x.born<clock) (hnd:(es.toList.map (·.born)).Nodup) (h0:J [] W) :
  CallsIn Fence.wide n Tryz.prog 125 #[.func (.yield l) #[] #[],.pointer (some ⟨Bm,0,none⟩)] W fun e W'=>(∃ v,e = .returned v)∧∃ ss:List (Nat→Int),ss.Perm K∧J ss W':=by
 have hlen:es.size = K.length:=by have:=congrArg List.length hkeys;simpa using this
 have hkey:∀ i,i<K.length→(es[i]!).key = Li (Sw K i):=fun i hi=>by
  have hi':i<es.size:=by omega
  have e1:es.toList[i]? = some (es[i]!):=by rw [Array.getElem?_toList,getElem!_pos es i hi',Array.getElem?_eq_getElem hi']
  have h9:(es.toList.map (·.key))[i]? = some (es[i]!).key:=by rw [List.getElem?_map,e1];rfl
  rw [hkeys,List.getElem?_map] at h9
  have h10:K[i]? = some (Sw K i):=by rw [Sw,List.getD_eq_getElem?_getD,List.getElem?_eq_getElem hi];rfl
  rw [h10] at h9
  simpa using h9.symm
 have hrg:=run_range_map (P:=Tryz.prog) W 96 55 4 b es clock (by kernel_rfl) hb
 have hbl:b<W.heap.size:=At hb
 have hI0:Hid (Zy b W.heap.size clock es K J (W.alloc (.mapIter (some b) clock #[] clock)) []):=⟨List.nodup_nil,(fun i h=>by cases h),heap_alloc_new W _,(Below.heap_alloc W _ b hbl).trans hb,by simp,hJ [] W _ none h0 (World.grownBy_alloc W _ none) (fun r e=>by cases e)⟩
 replace hlen:=Ad hlen
 replace hkey:=Ad hkey
 replace hrg:=Ad hrg
 replace hborn:=Ad hborn
 replace hnd:=Ad hnd
 replace hb:=Ad hb
 replace hJ:=Ad hJ
 replace hY:=Ad hY
 clear hkeys h0
 refine callsIn_of_wp Tryz.func125 rfl trivial ?_
 simp only [Tryz.ntmps125,List.size_toArray,List.length_cons,List.length_nil,Nat.reduceAdd,Nat.reduceSub,Array.replicate_succ,Array.replicate_zero,List.push_toArray,List.append_toArray,List.nil_append,List.cons_append]
 gi_wp2_with (first | (gi_at_range;refine Hm rfl _ 96 rfl rfl hrg.out ?_) | gi_in)
 simp only [Act.put,List.setIfInBounds_toArray,List.set_cons_succ,List.set_cons_zero]
 generalize (W.alloc (.mapIter (some b) clock #[] clock)) = w2 at *
 have hitw:W.heap.size≤W.heap.size:=Nat.le_refl _
 clear hrg
 gi_loopw [] (fun wr=>∃ I:List Nat,Hid (Zy b W.heap.size clock es K J wr I)) (fun wr=>K.length - HU W.heap.size wr)
 case atStart=>exact ⟨[],hI0⟩
 case round =>
  obtain ⟨I,hI⟩:=hrel
  obtain ⟨hI1,hI2,hit,hbr,hilt,hJs⟩:=hI.out
  have hsn:HU W.heap.size wr = I.length:=by unfold HU;rw [hit];simp [Dd]
  rcases run_next_at (P:=Tryz.prog) wr 0 W.heap.size b clock clock (Dd es I) es clock hit hbr hborn.out (Nat.le_refl _) with ⟨h0,hnx⟩ | ⟨e,he,wd,hwd,hnx⟩
  ·have hall := SB hnd.out (fun i hi => by rw [hlen.out]; exact hI2 i hi) h0
   rw [hlen.out] at hall
   have hfin:Hid (∃ ss:List (Nat→Int),ss.Perm K∧J ss wr):=Ad ⟨_,Um hI1 hI2 hall,hJs⟩
   replace hnx:=Ad hnx
   clear hI hI1 hI2 hit hbr hJs h0 hsn hall hI0
   gi_wp2_with (first | (gi_at_next;refine Fi rfl _ rfl rfl hnx.out ?_) | gi_in)
   go_end0
   exact ⟨⟨_,rfl⟩,hfin.out⟩
  ·obtain ⟨i,hi,hni,rfl⟩:=SA he
   rw [hlen.out] at hi
   rw [JV] at hnx
   have hk1:=hkey.out i hi
   have hitd:wd.heap[W.heap.size]? = some (.mapIter (some b) clock (Dd es I) clock):=by rcases hwd with rfl | rfl <;> exact hit
   have hbd:wd.heap[b]? = some (.map es clock):=by rcases hwd with rfl | rfl <;> exact hbr
   have hgd:wr.grownBy wd none:=by
    rcases hwd with rfl | rfl
    ·exact ⟨rfl,rfl,rfl,Nat.le_refl _,fun _ _ _=>rfl⟩
    ·exact ⟨rfl,rfl,rfl,Nat.le_refl _,fun _ _ _=>rfl⟩
   have hJd:=hJ.out _ wr wd none hJs hgd (fun r e=>by cases e)
   have hgs:=Ko (o':=.mapIter (some b) clock (Dd es (I ++ [i])) clock) hitd
   have hJ3:Hid (J (I.map (Sw K)) (setBlock wd W.heap.size (.mapIter (some b) clock (Dd es (I ++ [i])) clock))):=Ad (hJ.out _ wd _ (some W.heap.size) hJd hgs (fun r e=>by cases e;exact ⟨Nat.le_refl _,_,hitd,rfl⟩))
   have hit3:Hid ((setBlock wd W.heap.size (.mapIter (some b) clock (Dd es (I ++ [i])) clock)).heap[W.heap.size]? = some (.mapIter (some b) clock (Dd es (I ++ [i])) clock)):=EA hitd
   have hb3:Hid ((setBlock wd W.heap.size (.mapIter (some b) clock (Dd es (I ++ [i])) clock)).heap[b]? = some (.map es clock)):=Ad ((hgs.block b (At hbd) fun e=>by cases e;omega).trans hbd)
   have hen:=run_entry_at (P:=Tryz.prog) (setBlock wd W.heap.size (.mapIter (some b) clock (Dd es (I ++ [i])) clock)) W.heap.size b clock (Dd es I) es clock (es[i]!) (by rw [JV];exact hit3.out) hb3.out (by rw [getElem!_pos es i (by rw [hlen.out];exact hi)];simp) hnd.out
   have hnodup:Hid ((I ++ [i]).Nodup∧∀ j∈I ++ [i],j<K.length):=by
    refine ⟨?_,fun j hj=>?_⟩
    ·rw [List.nodup_append]
     exact ⟨hI1, by simp, fun a ha b hb e => by
      have hb':b = i:=by simpa using hb
      subst hb'
      subst e
      exact hni ha⟩
    ·rcases List.mem_append.1 hj with hj | hj
     ·exact hI2 j hj
     ·have : j = i := by simpa using hj
      omega
   have hIlt:I.length<K.length:=by
    have:=GO K.length (I ++ [i]) hnodup.out.1 hnodup.out.2
    simp at this
    omega
   rw [hk1] at hnx hen
   have hIJ:Hid ((I ++ [i]).map (Sw K) = I.map (Sw K) ++ [Sw K i]):=Ad (by simp)
   generalize hma:Sw K i = m at *
   replace hnx:=Ad hnx
   replace hsn:=Ad hsn
   replace hIlt:=Ad hIlt
   clear hI hI1 hI2 hit hbr he hni hk1 hitd hbd hgd hJd hgs hwd hJs hI0
   generalize (setBlock wd W.heap.size (.mapIter (some b) clock (Dd es (I ++ [i])) clock)) = w3 at *
   have hen':(Instr.entry (.pointer (some ⟨W.heap.size,0,none⟩))).run Tryz.prog w3 = .ok (.tuple #[.agg #[.int .i64 (m 0),.int .i64 (m 1),.int .i64 (m 2),.int .i64 (m 3),.int .i64 (m 4),.int .i64 (m 5),.int .i64 (m 6),.int .i64 (m 7)],(es[i]!).val]) w3:=hen
   clear hen
   have hJ4:=hJ.out _ w3 _ none hJ3.out (World.grownBy_alloc w3 (.cells #[.int .i64 (m 0),.int .i64 (m 1),.int .i64 (m 2),.int .i64 (m 3),.int .i64 (m 4),.int .i64 (m 5),.int .i64 (m 6),.int .i64 (m 7)] 55) none) (fun r e=>by cases e)
   obtain ⟨fn,tmps,assign,body,hy,hR⟩:=hY.out _ m _ hJ4 (by rw [List.length_map];exact hIlt.out)
   have hy':(Instr.yield l #[.agg #[.int .i64 (m 0),.int .i64 (m 1),.int .i64 (m 2),.int .i64 (m 3),.int .i64 (m 4),.int .i64 (m 5),.int .i64 (m 6),.int .i64 (m 7)]]).run Tryz.prog (w3.alloc (.cells #[.int .i64 (m 0),.int .i64 (m 1),.int .i64 (m 2),.int .i64 (m 3),.int .i64 (m 4),.int .i64 (m 5),.int .i64 (m 6),.int .i64 (m 7)] 55)) = _:=hy
   clear hy hJ4
   gi_wp2_with (first | (gi_at_next;refine Fi rfl _ rfl rfl hnx.out ?_) | gi_in)
   refine hR.mono ?_
   rintro e W3 ⟨rfl,hJ5,hk5⟩
   have hit4:Hid (W3.heap[W.heap.size]? = some (.mapIter (some b) clock (Dd es (I ++ [i])) clock)):=Ad (hk5.same _ _ ((Below.heap_alloc w3 _ _ (At hit3.out)).trans hit3.out) rfl)
   have hb4:Hid (W3.heap[b]? = some (.map es clock)):=Ad (hk5.same _ _ ((Below.heap_alloc w3 _ _ (At hb3.out)).trans hb3.out) rfl)
   rw [← hIJ.out] at hJ5
   have hI5:Hid (Zy b W.heap.size clock es K J W3 (I ++ [i])):=Ad ⟨hnodup.out.1,hnodup.out.2,hit4.out,hb4.out,At hit4.out,hJ5⟩
   have hms:Hid (K.length - HU W.heap.size W3<K.length - HU W.heap.size wr):=by
    have h1:HU W.heap.size W3 = I.length+1:=by unfold HU;rw [hit4.out];simp [Dd]
    have h2:=hIlt.out
    show K.length - HU W.heap.size W3<K.length - HU W.heap.size wr
    rw [h1,hsn.out]
    omega
   clear hJ5 hk5 hy' hen' hnx
   gi_wp2
   exact ⟨⟨_,hI5⟩,hms.out⟩
end Go.Proofs.YtialdhnijjnpaaaGreat
