/- Part 22 of the proof of hilbertMatchesReference_holds. No condition. -/
import Derived.LoopIn
import Derived.LoopNIn
import Derived.OwnWalkIn
import Derived.RangeFuncGives
import Derived.RegionIn
import Derived.Sort.MapsRangeIn
import Derived.TacticsInMore
import Derived.WalkKit
import Derived.Test.YtialdhnijjnpaaaGreatQg14
set_option linter.unusedSimpArgs false
set_option linter.unusedVariables false
set_option maxRecDepth 100000
set_option maxHeartbeats 3200000
namespace Go.Proofs.YtialdhnijjnpaaaGreat
open Go.RowKit
open Go.ChangeMaps (setBlock)
theorem If{F:Fence}{n:Nat}{P:Program}{w w':World}{ops:Array Oper}{rest:List Oper}{o:Oper}{a:Act}{Q:Exit->Act->World->Prop}(hg:o.guard=none)(m:Operand)(t:TypeId)(hop:o.op=Op.range t m){vm v:Value}(hm:a.eval m=vm)
  (hr:(Instr.range t vm).run P w = .ok v w') (h:wpListIn F n P ops Q rest (a.put o.dst v) w'):wpListIn F n P ops Q (o::rest) a w:=by
 refine wpListIn_plain hg λK' hK'=>?_
 unfold Oper.wpIn
 refine ⟨by simp [Oper.about,hop],?_⟩
 rw [Oper.semAt_plain F _ _ (by rw [hop];intro c hc';cases hc')]
 simp [execOp,hop,hm,hr,Result.andThen]
 exact hK' _ _ h
theorem FL{F:Fence}{n:Nat}{P:Program}{w w':World}{ops:Array Oper}{rest:List Oper}{o:Oper}{a:Act}{Q:Exit->Act->World->Prop}(hg:o.guard=none)(it:Operand)(hop:o.op=Op.next it false){vi v:Value}(hm:a.eval it=vi)
  (hr:(Instr.next vi false o.type).run P w = .ok v w') (h:wpListIn F n P ops Q rest (a.put o.dst v) w'):wpListIn F n P ops Q (o::rest) a w:=by
 refine wpListIn_plain hg λK' hK'=>?_
 unfold Oper.wpIn
 refine ⟨by simp [Oper.about,hop],?_⟩
 rw [Oper.semAt_plain F _ _ (by rw [hop];intro c hc';cases hc')]
 simp [execOp,hop,hm,hr,Result.andThen]
 exact hK' _ _ h
def MO(a:Nat->Int):Value:=.agg (c8 a)
abbrev WF(K:List (Nat->Int))(i:Nat):Nat->Int:=K.getD i default
def A3N(b it clock:Nat)(es:Array MapEntry)(K:List (Nat->Int))(J:List (Nat->Int)->World->Prop)(wr:World)(I:List Nat):Prop:=
 I.Nodup/\(∀i∈I,i<K.length)/\wr.heap[it]? = some (.mapIter (some b) clock (DE es I) clock)/\wr.heap[b]? = some (.map es clock)/\it<wr.heap.size/\J (I.map (WF K)) wr
theorem YU{K:List (Nat->Int)}{I:List Nat}(h1:I.Nodup)(h2:∀i∈I,i<K.length)(h3:∀i,i<K.length->i∈I):(I.map (WF K)).Perm K:=by
 have hI:I.Perm (List.range K.length):=(List.perm_ext_iff_of_nodup h1 List.nodup_range).2 λi=>by
  constructor
  .intro hi;simpa using h2 i hi
  .intro hi;exact h3 i (by simpa using hi)
 have hE:(List.range K.length).map (WF K)=K:=by
  refine List.ext_getElem (by simp) λi q1 q2=>?_
  simp only [List.getElem_map,List.getElem_range]
  rw [WF,List.getD_eq_getElem?_getD,List.getElem?_eq_getElem q2]
  rfl
 have:=hI.map (WF K)
 rwa [hE] at this
theorem WM(n:Nat)(hn:1<=n)(l Bm b clock:Nat)(es:Array MapEntry)(K:List (Nat->Int))(J:List (Nat->Int)->World->Prop)
  (hY:∀pre x W,J pre W->pre.length<K.length->YieldAt Fence.wide (n-1) Tryz.prog l #[MO x] W λe W'=>e = .returned (.bool true)/\J (pre++[x]) W'/\KeepsWalks W W')
  (W:World) (hJ:AbidesFrom W.heap.size J) (hm:W.cell? ⟨Bm,0,none⟩=some (.map (some b))) (hb:W.heap[b]? = some (.map es clock)) (hkeys:es.toList.map (·.key)=K.map MO) (hborn:∀x∈es.toList,x.born<clock) (hnd:(es.toList.map (·.born)).Nodup) (h0:J [] W) :
  CallsIn Fence.wide n Tryz.prog 125 #[.func (.yield l) #[] #[],.pointer (some ⟨Bm,0,none⟩)] W λe W'=>(∃v,e = .returned v)/\∃ss:List (Nat->Int),ss.Perm K/\J ss W':=by
 have hlen:es.size=K.length:=by have:=congrArg List.length hkeys;simpa using this
 have hkey:∀i,i<K.length->(es[i]!).key=MO (WF K i):=λi hi=>by
  have hi':i<es.size:=by omega
  have e1:es.toList[i]? = some (es[i]!):=by rw [Array.getElem?_toList,getElem!_pos es i hi',Array.getElem?_eq_getElem hi']
  have h9:(es.toList.map (·.key))[i]? = some (es[i]!).key:=by rw [List.getElem?_map,e1];rfl
  rw [hkeys,List.getElem?_map] at h9
  have h10:K[i]? = some (WF K i):=by rw [WF,List.getD_eq_getElem?_getD,List.getElem?_eq_getElem hi];rfl
  rw [h10] at h9
  simpa using h9.symm
 have hrg:=run_range_map (P:=Tryz.prog) W 96 55 4 b es clock (by kernel_rfl) hb
 have hbl:b<W.heap.size:=AG hb
 have hI0:Hid (A3N b W.heap.size clock es K J (W.alloc (.mapIter (some b) clock #[] clock)) []):=⟨List.nodup_nil,(λi h=>by cases h),heap_alloc_new W _,(Below.heap_alloc W _ b hbl).trans hb,by simp,hJ [] W _ none h0 (World.grownBy_alloc W _ none) (λr e=>by cases e)⟩
 replace hlen:=Ae hlen
 replace hkey:=Ae hkey
 replace hrg:=Ae hrg
 replace hborn:=Ae hborn
 replace hnd:=Ae hnd
 replace hb:=Ae hb
 replace hJ:=Ae hJ
 replace hY:=Ae hY
 clear hkeys h0
 refine callsIn_of_wp Tryz.func125 rfl trivial ?_
 simp only [Tryz.ntmps125,List.size_toArray,List.length_cons,List.length_nil,Nat.reduceAdd,Nat.reduceSub,Array.replicate_succ,Array.replicate_zero,List.push_toArray,List.append_toArray,List.nil_append,List.cons_append]
 gi_wp2_with (first | (gi_at_range;refine If rfl _ 96 rfl rfl hrg.out ?_) | gi_in)
 simp only [Act.put,List.setIfInBounds_toArray,List.set_cons_succ,List.set_cons_zero]
 generalize (W.alloc (.mapIter (some b) clock #[] clock))=w2 at *
 have hitw:W.heap.size<=W.heap.size:=Nat.le_refl _
 clear hrg
 gi_loopw [] (λwr=>∃I:List Nat,Hid (A3N b W.heap.size clock es K J wr I)) (λwr=>K.length-IV W.heap.size wr)
 case atStart=>exact ⟨[],hI0⟩
 case round=>
  obtain ⟨I,hI⟩:=hrel
  obtain ⟨hI1,hI2,hit,hbr,hilt,hJs⟩:=hI.out
  have hsn:IV W.heap.size wr=I.length:=by unfold IV;rw [hit];simp [DE]
  rcases run_next_at (P:=Tryz.prog) wr 0 W.heap.size b clock clock (DE es I) es clock hit hbr hborn.out (Nat.le_refl _) with ⟨h0,hnx⟩ | ⟨e,he,wd,hwd,hnx⟩
  .have hall:=WK hnd.out (λi hi=>by rw [hlen.out]; exact hI2 i hi) h0
   rw [hlen.out] at hall
   have hfin:Hid (∃ss:List (Nat->Int),ss.Perm K/\J ss wr):=Ae ⟨_,YU hI1 hI2 hall,hJs⟩
   replace hnx:=Ae hnx
   clear hI hI1 hI2 hit hbr hJs h0 hsn hall hI0
   gi_wp2_with (first | (gi_at_next;refine FL rfl _ rfl rfl hnx.out ?_) | gi_in)
   go_end0
   exact ⟨⟨_,rfl⟩,hfin.out⟩
  .obtain ⟨i,hi,hni,rfl⟩:=WJ he
   rw [hlen.out] at hi
   rw [Lv] at hnx
   have hk1:=hkey.out i hi
   have hitd:wd.heap[W.heap.size]? = some (.mapIter (some b) clock (DE es I) clock):=by rcases hwd with rfl | rfl<;>exact hit
   have hbd:wd.heap[b]? = some (.map es clock):=by rcases hwd with rfl | rfl<;>exact hbr
   have hgd:wr.grownBy wd none:=by
    rcases hwd with rfl | rfl
    .exact ⟨rfl,rfl,rfl,Nat.le_refl _,λ_ _ _=>rfl⟩
    .exact ⟨rfl,rfl,rfl,Nat.le_refl _,λ_ _ _=>rfl⟩
   have hJd:=hJ.out _ wr wd none hJs hgd (λr e=>by cases e)
   have hgs:=LR (o':=.mapIter (some b) clock (DE es (I++[i])) clock) hitd
   have hJ3:Hid (J (I.map (WF K)) (setBlock wd W.heap.size (.mapIter (some b) clock (DE es (I++[i])) clock))):=Ae (hJ.out _ wd _ (some W.heap.size) hJd hgs (λr e=>by cases e;exact ⟨Nat.le_refl _,_,hitd,rfl⟩))
   have hit3:Hid ((setBlock wd W.heap.size (.mapIter (some b) clock (DE es (I++[i])) clock)).heap[W.heap.size]? = some (.mapIter (some b) clock (DE es (I++[i])) clock)):=EP hitd
   have hb3:Hid ((setBlock wd W.heap.size (.mapIter (some b) clock (DE es (I++[i])) clock)).heap[b]? = some (.map es clock)):=Ae ((hgs.block b (AG hbd) λe=>by cases e;omega).trans hbd)
   have hen:=run_entry_at (P:=Tryz.prog) (setBlock wd W.heap.size (.mapIter (some b) clock (DE es (I++[i])) clock)) W.heap.size b clock (DE es I) es clock (es[i]!) (by rw [Lv];exact hit3.out) hb3.out (by rw [getElem!_pos es i (by rw [hlen.out];exact hi)];simp) hnd.out
   have hnodup:Hid ((I++[i]).Nodup/\∀j∈I++[i],j<K.length):=by
    refine ⟨?_,λj hj=>?_⟩
    .rw [List.nodup_append]
     exact ⟨hI1, by simp, fun a ha b hb e => by
      have hb':b=i:=by simpa using hb
      subst hb'
      subst e
      exact hni ha⟩
    .rcases List.mem_append.1 hj with hj | hj
     .exact hI2 j hj
     .have:j=i:=by simpa using hj
      omega
   have hIlt:I.length<K.length:=by
    have:=JP K.length (I++[i]) hnodup.out.1 hnodup.out.2
    simp at this
    omega
   rw [hk1] at hnx hen
   have hIJ:Hid ((I++[i]).map (WF K)=I.map (WF K)++[WF K i]):=Ae (by simp)
   generalize hma:WF K i=m at *
   replace hnx:=Ae hnx
   replace hsn:=Ae hsn
   replace hIlt:=Ae hIlt
   clear hI hI1 hI2 hit hbr he hni hk1 hitd hbd hgd hJd hgs hwd hJs hI0
   generalize (setBlock wd W.heap.size (.mapIter (some b) clock (DE es (I++[i])) clock))=w3 at *
   have hen':(Instr.entry (.pointer (some ⟨W.heap.size,0,none⟩))).run Tryz.prog w3 = .ok (.tuple #[.agg #[.int .i64 (m 0),.int .i64 (m 1),.int .i64 (m 2),.int .i64 (m 3),.int .i64 (m 4),.int .i64 (m 5),.int .i64 (m 6),.int .i64 (m 7)],(es[i]!).val]) w3:=hen
   clear hen
   have hJ4:=hJ.out _ w3 _ none hJ3.out (World.grownBy_alloc w3 (.cells #[.int .i64 (m 0),.int .i64 (m 1),.int .i64 (m 2),.int .i64 (m 3),.int .i64 (m 4),.int .i64 (m 5),.int .i64 (m 6),.int .i64 (m 7)] 55) none) (λr e=>by cases e)
   obtain ⟨fn,tmps,assign,body,hy,hR⟩:=hY.out _ m _ hJ4 (by rw [List.length_map];exact hIlt.out)
   have hy':(Instr.yield l #[.agg #[.int .i64 (m 0),.int .i64 (m 1),.int .i64 (m 2),.int .i64 (m 3),.int .i64 (m 4),.int .i64 (m 5),.int .i64 (m 6),.int .i64 (m 7)]]).run Tryz.prog (w3.alloc (.cells #[.int .i64 (m 0),.int .i64 (m 1),.int .i64 (m 2),.int .i64 (m 3),.int .i64 (m 4),.int .i64 (m 5),.int .i64 (m 6),.int .i64 (m 7)] 55))=_:=hy
   clear hy hJ4
   gi_wp2_with (first | (gi_at_next;refine FL rfl _ rfl rfl hnx.out ?_) | gi_in)
   refine hR.mono ?_
   rintro e W3 ⟨rfl,hJ5,hk5⟩
   have hit4:Hid (W3.heap[W.heap.size]? = some (.mapIter (some b) clock (DE es (I++[i])) clock)):=Ae (hk5.same _ _ ((Below.heap_alloc w3 _ _ (AG hit3.out)).trans hit3.out) rfl)
   have hb4:Hid (W3.heap[b]? = some (.map es clock)):=Ae (hk5.same _ _ ((Below.heap_alloc w3 _ _ (AG hb3.out)).trans hb3.out) rfl)
   rw [<-hIJ.out] at hJ5
   have hI5:Hid (A3N b W.heap.size clock es K J W3 (I++[i])):=Ae ⟨hnodup.out.1,hnodup.out.2,hit4.out,hb4.out,AG hit4.out,hJ5⟩
   have hms:Hid (K.length-IV W.heap.size W3<K.length-IV W.heap.size wr):=by
    have h1:IV W.heap.size W3=I.length+1:=by unfold IV;rw [hit4.out];simp [DE]
    have h2:=hIlt.out
    show K.length-IV W.heap.size W3<K.length-IV W.heap.size wr
    rw [h1,hsn.out]
    omega
   clear hJ5 hk5 hy' hen' hnx
   gi_wp2
   exact ⟨⟨_,hI5⟩,hms.out⟩
end Go.Proofs.YtialdhnijjnpaaaGreat
