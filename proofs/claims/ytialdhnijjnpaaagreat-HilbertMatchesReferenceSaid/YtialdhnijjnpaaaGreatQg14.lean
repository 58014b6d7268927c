/- Part 14 of the proof of hilbertMatchesReference_holds. No condition. -/
import Derived.Maps.RangeWalk
import Derived.Test.YtialdhnijjnpaaaGreatQg2
import Derived.Test.YtialdhnijjnpaaaGreatQg13
set_option linter.unusedSimpArgs false
set_option linter.unusedVariables false
set_option maxRecDepth 100000
namespace Go.Proofs.YtialdhnijjnpaaaGreat
open Go.RowKit
open Go.ChangeMaps (setBlock)
def DE(es:Array MapEntry)(I:List Nat):Array Nat:=(I.map λi=>(es[i]!).born).toArray
theorem Lv(es:Array MapEntry)(I:List Nat)(i:Nat):(DE es I).push (es[i]!).born=DE es (I++[i]):=by simp [DE]
theorem A08{es:Array MapEntry}(h:(es.toList.map (·.born)).Nodup){i j:Nat}(hi:i<es.size)(hj:j<es.size)(e:(es[i]!).born=(es[j]!).born):i=j:=by
 rw [getElem!_pos es i hi,getElem!_pos es j hj] at e
 have h1:=List.pairwise_iff_getElem.1 h
 rcases Nat.lt_trichotomy i j with hij | hij | hij
 .exact absurd (by rw [List.getElem_map,List.getElem_map,Array.getElem_toList,Array.getElem_toList];exact e) (h1 i j (by simpa using hi) (by simpa using hj) hij)
 .exact hij
 .exact absurd (by rw [List.getElem_map,List.getElem_map,Array.getElem_toList,Array.getElem_toList];exact e.symm) (h1 j i (by simpa using hj) (by simpa using hi) hij)
theorem WJ{es:Array MapEntry}{I:List Nat}{e:MapEntry}(h:e∈(leftOf es (DE es I)).toList):∃i,i<es.size/\i∉I/\es[i]! = e:=by
 unfold leftOf at h
 simp only [Array.toList_filter,List.mem_filter] at h
 obtain ⟨h1,h2⟩:=h
 obtain ⟨i,hi,rfl⟩:=List.mem_iff_getElem.1 h1
 have hi':i<es.size:=by simpa using hi
 refine ⟨i,hi',λhI=>?_,by rw [getElem!_pos es i hi'];simp⟩
 have:(DE es I).contains (es.toList[i]).born=true:=by
  rw [Array.contains_iff_mem]
  simp only [DE,List.mem_toArray,List.mem_map]
  exact ⟨i,hI,by rw [getElem!_pos es i hi'];simp⟩
 rw [this] at h2
 cases h2
theorem WK{es:Array MapEntry}{I:List Nat}(hn:(es.toList.map (·.born)).Nodup)(hI:∀i∈I,i<es.size)(h:(leftOf es (DE es I)).size=0):∀i,i<es.size->i∈I:=λi hi=>by
 have h0:leftOf es (DE es I)=#[]:=Array.eq_empty_of_size_eq_zero h
 unfold leftOf at h0
 rw [Array.filter_eq_empty_iff] at h0
 have h1:=h0 (es[i]) (Array.getElem_mem hi)
 have h2:(DE es I).contains (es[i]).born=true:=by simpa using h1
 rw [Array.contains_iff_mem] at h2
 simp only [DE,List.mem_toArray,List.mem_map] at h2
 obtain ⟨j,hj,e⟩:=h2
 have:=A08 hn (hI j hj) hi (by rw [e,getElem!_pos es i hi])
 rw [<-this];exact hj
noncomputable def nz (t:Tm):Bool:=decide (t.c≠0)
theorem JP:∀(n:Nat) (I:List Nat),I.Nodup->(∀i∈I,i<n)->I.length<=n
 | 0,[],_,_=>Nat.le_refl _
 | 0,i::I,_,h=>absurd (h i (by simp)) (Nat.not_lt_zero _)
 | n+1,I,hn,h=>by
  by_cases hm:n∈I
  .have h1:=JP n (I.erase n) (hn.erase n) λi hi=>by
    have h2:=(hn.mem_erase_iff).1 hi
    have h3:=h i h2.2
    have:=h2.1
    omega
   rw [List.length_erase_of_mem hm] at h1
   omega
  .have:=JP n I hn λi hi=>by
    have h3:=h i hi
    have:i≠n:=λe=>hm (by rw [<-e];exact hi)
    omega
   omega
structure Gath(E:List Tm)(I:List Nat)(P:List Tm):Prop where
 nd:I.Nodup
 lt:∀i∈I,i<E.length
 eq:P=(I.map (tAt E)).filter nz
theorem Gath.nil(E:List Tm):Gath E [] []:=⟨by simp,(λi h=>by cases h),rfl⟩
def IV(it:Nat)(w:World):Nat:=match w.heap[it]? with | some (.mapIter _ _ seen _)=>seen.size | _=>0
structure Colld(E G:List Tm)(n D:Nat)(hi:Int):Prop where
 sim:Sim E G
 len:E.length<=n
 sz:PSz E (n*D)
 in_:PIn E 0 hi
theorem Colld.nil(D:Nat)(hi:Int):Colld [] [] 0 D hi:=⟨Sim.refl _,by simp,(λt h=>by cases h),(λt h=>by cases h)⟩
end Go.Proofs.YtialdhnijjnpaaaGreat
