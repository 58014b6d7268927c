/- Part 10 of the proof of squaresGram_holds. No condition. -/
import Derived.Maps.RangeRun
import Derived.WideKeyRuns
import Derived.Test.YtnbfnoebjjdmnaaGreatGm9
set_option linter.unusedSimpArgs false
set_option linter.unusedVariables false
set_option maxRecDepth 100000
namespace Go.Proofs.YtnbfnoebjjdmnaaGreat
open Go.RowKit
open Go.ChangeMaps (setBlock)
theorem Eq(em:Bool)(a:Nat->Int)(W:World):(Instr.checkKey em 10000 60 (.agg (c8 a))).run Tryz.prog W = .ok () W:=by
 obtain ⟨i,hi⟩:∃i,Tryz.prog.info? 3=some i:=Option.isSome_iff_exists.1 (by kernel_rfl)
 rw [show (10000:Nat)=9999+1 from rfl,Instr.checkKey]
 simp only [Sem.run_bind,run_underlying (show Tryz.prog.underlying 60=some (.array 8 3) by kernel_rfl),Result.andThen_ok]
 simp only [Std.Legacy.Range.forIn_eq_forIn_range',Std.Legacy.Range.size,Nat.sub_zero,Nat.add_one_sub_one,Nat.div_one]
 have each:∀j∈List.range' 0 8,j<8:=λj hj=>by simp at hj;omega
 generalize List.range' 0 8=is at each
 induction is with
 | nil=>simp
 | cons j is ih=>
  have p1:=OR a j (each j (by simp)) W
  have p2:(Instr.checkKey em 9999 3 (.int .i64 (a j))).run Tryz.prog W = .ok () W:=by
   rw [show (9999:Nat)=9998+1 from rfl,Instr.checkKey]
   simp only [Sem.run_bind,run_underlying (show Tryz.prog.underlying 3=some (.int .i64) by kernel_rfl),Result.andThen_ok]
   rfl
  simp only [List.forIn_cons,Sem.run_bind,run_sizeOf W hi,Result.andThen_ok,p1,p2,Sem.run_pure]
  exact ih (λy hy=>each y (by simp [hy]))
def VP(t:Tm):Value:=.agg (c8 t.m)
theorem Gf(a:Nat->Int)(t:Tm)(W:World):(Op.equal 60 (.agg (c8 a)) (VP t)).run Tryz.prog W = .ok (Nj a t.m) W:=EJ a t.m W
theorem YV{a b:Nat->Int}(h:¬Eqv a b):Nj a b=false:=Bool.eq_false_iff.2 λh'=>h (CB.1 h')
theorem Kh(a:Nat->Int)(W:World):∀(es:List MapEntry) (E:List Tm) (k:Nat),es.map (·.key)=E.map VP->(∀t∈E,¬Eqv a t.m)->(Instr.findAsking 60 (.agg (c8 a)) es k).run Tryz.prog W = .ok none W
 | [],_,_,_,_=>by simp [Instr.findAsking]
 | e::es,[],_,h,_=>by simp at h
 | e::es,t::E,k,h,hn=>by
  simp only [List.map_cons,List.cons.injEq] at h
  simp only [Instr.findAsking,Sem.run_bind,h.1,Gf,YV (hn t (by simp)),Result.andThen_ok,Bool.false_eq_true,if_false]
  exact Kh a W es E (k+1) h.2 λu hu=>hn u (by simp [hu])
theorem Kg(a:Nat->Int)(W:World):∀(es:List MapEntry) (E:List Tm) (k i:Nat),es.map (·.key)=E.map VP->i<E.length->Eqv a (AZ E i).m->(∀j,j<i->¬Eqv a (AZ E j).m)->∃e,es[i]? = some e/\(Instr.findAsking 60 (.agg (c8 a)) es k).run Tryz.prog W = .ok (some (k+i,e.val)) W
 | [],E,_,i,h,hi,_,_=>by
  have:E=[]:=by cases E<;>simp at h;rfl
  subst this
  simp at hi
 | e::es,[],_,_,h,_,_,_=>by simp at h
 | e::es,t::E,k,0,h,hi,he,hn=>by
  simp only [List.map_cons,List.cons.injEq] at h
  refine ⟨e,rfl,?_⟩
  have he:Eqv a t.m:=he
  simp only [Instr.findAsking,Sem.run_bind,h.1,Gf,CB.2 he,Result.andThen_ok,if_true]
  rfl
 | e::es,t::E,k,i+1,h,hi,he,hn=>by
  simp only [List.map_cons,List.cons.injEq] at h
  obtain ⟨x,h1,h2⟩:=Kg a W es E (k+1) i h.2 (by simpa using hi) he (λj hj=>hn (j+1) (by omega))
  refine ⟨x,by simpa using h1,?_⟩
  have h0:¬Eqv a t.m:=hn 0 (by omega)
  simp only [Instr.findAsking,Sem.run_bind,h.1,Gf,YV h0,Result.andThen_ok,Bool.false_eq_true,if_false]
  rw [h2,show k+1+i=k+(i+1) by omega]
def MapAt(w:World)(b:Nat)(E:List Tm):Prop:=∃(es:Array MapEntry) (clock:Nat),w.heap[b]? = some (.map es clock)/\es.toList.map (·.key)=E.map VP/\(∀i e,es.toList[i]? = some e->RatV w e.val (AZ E i).c)/\(∀x∈es.toList,x.born<clock)/\(es.toList.map (·.born)).Nodup/\E.Pairwise λs t=>¬Eqv s.m t.m
theorem MapAt.new(w:World):MapAt (w.alloc (.map #[] 0)) w.heap.size []:=⟨#[],0,heap_alloc_new w _,rfl,λi e h=>by simp at h,λx h=>by simp at h,by simp,List.Pairwise.nil⟩
theorem MapAt.lt{w:World}{b:Nat}{E:List Tm}(h:MapAt w b E):b<w.heap.size:=by
 obtain ⟨es,clock,h1,_⟩:=h
 exact AU h1
theorem MapAt.ext{w w':World}{b:Nat}{E:List Tm}(h:MapAt w b E)(he:Ext w w'):MapAt w' b E:=by
 obtain ⟨es,clock,h1,h2,h3,h4⟩:=h
 exact ⟨es,clock,(he.block (AU h1)).trans h1,h2,λi e hi=>(h3 i e hi).ext he,h4⟩
theorem MapAt.notU{w:World}{b:Nat}{E:List Tm}(h:MapAt w b E)(t:TypeId):¬Ty w b t:=λhu=>by
 obtain ⟨es,clock,h1,_⟩:=h
 obtain ⟨_,_,h2⟩:=hu
 rw [h1] at h2
 cases h2
theorem Fe(x:Value)(es:List MapEntry)(w:World):(Instr.findKey 60 x es).run Tryz.prog w=(Instr.findAsking 60 x es).run Tryz.prog w:=run_findKey_eq w (by kernel_rfl) x es
theorem MapAt.look_none{w:World}{b:Nat}{E:List Tm}(h:MapAt w b E){a:Nat->Int}(hn:∀t∈E,¬Eqv a t.m) :
  (Instr.lookup 114 (.map (some b)) (.agg (c8 a)) true).run Tryz.prog w = .ok (.tuple #[.agg #[.bool false,.slice none 0 0,.bool false,.slice none 0 0],.bool false]) w:=by
 obtain ⟨es,clock,h1,h2,_⟩:=h
 have hz:(zeroValue 42).run Tryz.prog w = .ok (.agg #[.bool false,.slice none 0 0,.bool false,.slice none 0 0]) w:=by kernel_rfl
 simp only [Instr.lookup,Sem.run_bind,run_underlying (show Tryz.prog.underlying 114=some (.map 60 42) by kernel_rfl),Result.andThen_ok,MapKept.run_getObj_map h1,Eq,Fe,Kh a w es.toList E 0 h2 hn,hz,Sem.run_pure,if_true]
theorem MapAt.look_some{w:World}{b:Nat}{E:List Tm}(h:MapAt w b E){a:Nat->Int}{i:Nat}(hi:i<E.length)(he:Eqv a (AZ E i).m)(hn:∀j,j<i->¬Eqv a (AZ E j).m) :
  ∃v,RatV w v (AZ E i).c/\(Instr.lookup 114 (.map (some b)) (.agg (c8 a)) true).run Tryz.prog w = .ok (.tuple #[v,.bool true]) w:=by
 obtain ⟨es,clock,h1,h2,h3,_⟩:=h
 obtain ⟨e,h4,h5⟩:=Kg a w es.toList E 0 i h2 hi he hn
 refine ⟨e.val,h3 i e h4,?_⟩
 simp only [Instr.lookup,Sem.run_bind,run_underlying (show Tryz.prog.underlying 114=some (.map 60 42) by kernel_rfl),Result.andThen_ok,MapKept.run_getObj_map h1,Eq,Fe,h5,Sem.run_pure,if_true]
theorem Er{w:World}{b:Nat}{o o':Obj}(h:w.heap[b]? = some o):w.grownBy (setBlock w b o') (some b):=by
 refine ⟨rfl,rfl,rfl,by simp [setBlock],λk hk hne=>?_⟩
 have:k≠b:=λe=>hne (by rw [e])
 simp only [setBlock]
 rw [Array.getElem?_setIfInBounds_ne (λe=>this e.symm)]
theorem Gi{w:World}{b:Nat}{o o':Obj}(h:w.heap[b]? = some o):(setBlock w b o').heap[b]? = some o':=by
 simp only [setBlock]
 rw [Array.getElem?_setIfInBounds_self,if_pos (AU h)]
theorem Jp{E:List Tm}(h:E.Pairwise λs t=>¬Eqv s.m t.m){i j:Nat}(hij:i<j)(hj:j<E.length):¬Eqv (AZ E i).m (AZ E j).m:=by
 have:=List.pairwise_iff_getElem.1 h i j (by omega) hj hij
 unfold AZ
 rw [List.getD_eq_getElem?_getD,List.getElem?_eq_getElem (by omega),List.getD_eq_getElem?_getD,List.getElem?_eq_getElem hj]
 exact this
theorem MapAt.put_none{w:World}{b:Nat}{E:List Tm}(h:MapAt w b E){a:Nat->Int}(hn:∀t∈E,¬Eqv a t.m){v:Value}{q:Rat}(hv:RatV w v q) :
  ∃w',(Instr.mapUpdate 114 (.map (some b)) (.agg (c8 a)) v).run Tryz.prog w = .ok () w'/\MapAt w' b (E++[⟨q,a⟩])/\w.grownBy w' (some b):=by
 have hu:=h.notU 108
 obtain ⟨es,clock,h1,h2,h3,h4,h5,h6⟩:=h
 have hg:=Er (o':=.map (es.push { key:=.agg (c8 a),val:=v,born:=clock }) (clock+1)) h1
 have hk:∀k,some b=some k->¬Ty w k 108:=λk e=>by cases e;exact hu
 have hlen:es.size=E.length:=by have:=congrArg List.length h2;simpa using this
 refine ⟨_,?_,⟨_,_,Gi h1,?_,λi e hi=>?_,λx hx=>?_,?_,?_⟩,hg⟩
 .simp only [Instr.mapUpdate, Sem.run_bind, run_underlying (show Tryz.prog.underlying 114=some (.map 60 42) by kernel_rfl), Result.andThen_ok, MapKept.run_getObj_map h1, Eq, Fe, Kh a w es.toList E 0 h2 hn, MapKept.run_setObj_map _ h1]
  rfl
 .simp [h2,VP]
 .rw [Array.toList_push] at hi
  by_cases e1:i<es.size
  .rw [List.getElem?_append_left (by simpa using e1)] at hi
   have:AZ (E++[⟨q,a⟩]) i=AZ E i:=by
    unfold AZ
    rw [List.getD_eq_getElem?_getD,List.getElem?_append_left (by omega),<-List.getD_eq_getElem?_getD]
   rw [this]
   exact (h3 i e hi).kept hg hk
  .rw [List.getElem?_append_right (by simpa using e1)] at hi
   have hi0:i-es.toList.length=0:=by
    rcases Nat.eq_zero_or_pos (i-es.toList.length) with h | h
    .exact h
    .rw [List.getElem?_eq_none (by simp;simp at h;omega)] at hi;cases hi
   rw [hi0] at hi
   have he:e={ key:=.agg (c8 a),val:=v,born:=clock }:=by simpa using hi.symm
   have e2:i=E.length:=by simp at hi0 e1;omega
   have:AZ (E++[⟨q,a⟩]) i=⟨q,a⟩:=by unfold AZ;rw [e2];simp
   rw [he,this]
   exact hv.kept hg hk
 .rw [Array.toList_push] at hx
  rcases List.mem_append.1 hx with hx | hx
  .have:=h4 x hx;omega
  .have:x={ key:=.agg (c8 a), val:=v, born:=clock }:=by simpa using hx
   rw [this];simp
 .rw [Array.toList_push,List.map_append,List.nodup_append]
  refine ⟨h5,by simp,λx hx y hy=>?_⟩
  obtain ⟨z,hz,rfl⟩:=List.mem_map.1 hx
  have h7:=h4 z hz
  have:y=clock:=by simpa using hy
  omega
 .rw [List.pairwise_append]
  refine ⟨h6,by simp,λs hs t ht=>?_⟩
  have:t=⟨q,a⟩:=by simpa using ht
  rw [this]
  exact λe=>hn s hs e.symm
theorem Qp(a b:Nat->Int)(h:Eqv a b):Instr.sameBits 10000 (.agg (c8 a)) (.agg (c8 b))=true:=by
 have:c8 a=c8 b:=by unfold c8;rw [h 0 (by omega),h 1 (by omega),h 2 (by omega),h 3 (by omega),h 4 (by omega),h 5 (by omega),h 6 (by omega),h 7 (by omega)]
 rw [this]
 simp [Instr.sameBits,c8]
theorem MapAt.put_some{w:World}{b:Nat}{E:List Tm}(h:MapAt w b E){a:Nat->Int}{i:Nat}(hi:i<E.length)(he:Eqv a (AZ E i).m){v:Value}{q:Rat}(hv:RatV w v q) :
  ∃w',(Instr.mapUpdate 114 (.map (some b)) (.agg (c8 a)) v).run Tryz.prog w = .ok () w'/\MapAt w' b (E.set i ⟨q,a⟩)/\w.grownBy w' (some b):=by
 have hu:=h.notU 108
 obtain ⟨es,clock,h1,h2,h3,h4,h5,h6⟩:=h
 have hn:∀j,j<i->¬Eqv a (AZ E j).m:=λj hj e=>Jp h6 hj hi (e.symm.trans he)
 obtain ⟨e,h7,h8⟩:=Kg a w es.toList E 0 i h2 hi he hn
 have hlen:es.size=E.length:=by have:=congrArg List.length h2;simpa using this
 have hke:e.key = .agg (c8 (AZ E i).m):=by
  have h9:(es.toList.map (·.key))[i]? = some e.key:=by rw [List.getElem?_map,h7];rfl
  rw [h2,List.getElem?_map] at h9
  have h10:E[i]? = some (AZ E i):=by unfold AZ;rw [List.getD_eq_getElem?_getD,List.getElem?_eq_getElem hi];rfl
  rw [h10] at h9
  simp only [Option.map_some,Option.some.injEq] at h9
  rw [<-h9];rfl
 have hei:es[i]? = some e:=by rw [<-Array.getElem?_toList];exact h7
 have hg:=Er (o':=.map (es.modify i λx=>{ x with key:=.agg (c8 a),val:=v }) clock) h1
 have hk:∀k,some b=some k->¬Ty w k 108:=λk e=>by cases e;exact hu
 have hst:(Instr.keyThatStays (((es[i]?).map (·.key)).getD (.agg (c8 a))) (.agg (c8 a))).run Tryz.prog w = .ok (.agg (c8 a)) w:=by
  rw [hei]
  simp only [Option.map_some,Option.getD_some,hke,Instr.keyThatStays,Qp _ _ he.symm,if_true]
  rfl
 have hmod:(es.modify i λx=>{ x with key:=.agg (c8 a),val:=v }).toList=es.toList.set i { key:=.agg (c8 a),val:=v,born:=e.born }:=by
  apply List.ext_getElem?
  intro k
  rw [Array.getElem?_toList,Array.getElem?_modify,List.getElem?_set]
  by_cases hki:i=k
  .subst hki
   rw [if_pos rfl,if_pos rfl,if_pos (by simpa using (by omega:i<es.size)),hei]
   rfl
  .rw [if_neg hki,if_neg hki,Array.getElem?_toList]
 refine ⟨_,?_,⟨_,_,Gi h1,?_,λk x hk'=>?_,λx hx=>?_,?_,?_⟩,hg⟩
 .rw [Nat.zero_add] at h8
  simp only [Instr.mapUpdate,Sem.run_bind,run_underlying (show Tryz.prog.underlying 114=some (.map 60 42) by kernel_rfl),Result.andThen_ok,MapKept.run_getObj_map h1,Eq,Fe,h8,hst,MapKept.run_setObj_map _ h1]
  rfl
 .rw [hmod,List.map_set,h2,List.map_set]
  rfl
 .rw [hmod,List.getElem?_set] at hk'
  by_cases hki:i=k
  .subst hki
   rw [if_pos rfl,if_pos (by simpa using (by omega:i<es.size))] at hk'
   cases hk'
   have:AZ (E.set i ⟨q,a⟩) i=⟨q,a⟩:=by unfold AZ;simp [hi]
   rw [this]
   exact hv.kept hg hk
  .rw [if_neg hki] at hk'
   have:AZ (E.set i ⟨q,a⟩) k=AZ E k:=by unfold AZ;simp [List.getElem?_set,hki]
   rw [this]
   exact (h3 k x hk').kept hg hk
 .rw [hmod] at hx
  rcases List.mem_or_eq_of_mem_set hx with hx | rfl
  .exact h4 x hx
  .exact h4 e (List.mem_of_getElem? h7)
 .rw [hmod,List.map_set]
  have:(es.toList.map (·.born)).set i e.born=es.toList.map (·.born):=by
   apply List.ext_getElem?
   intro k
   rw [List.getElem?_set]
   by_cases hki:i=k
   .subst hki
    rw [if_pos rfl,if_pos (by simpa using (by omega:i<es.size)),List.getElem?_map,h7]
    rfl
   .rw [if_neg hki]
  rw [this]
  exact h5
 .rw [List.pairwise_iff_getElem] at h6 ⊢
  intro j k hj hk2 hjk
  simp only [List.length_set] at hj hk2
  have g1 : ∀ z (hz : z < E.length), Eqv ((E.set i ⟨q, a⟩)[z]'(by simpa using hz)).m (E[z]).m := fun z hz => by
   rw [List.getElem_set]
   split
   .rename_i e1
    subst e1
    have:AZ E i=E[i]:=by unfold AZ;simp [hi]
    rw [<-this];exact he
   .exact Eqv.refl _
  exact λe2=>h6 j k hj hk2 hjk (((g1 j hj).symm.trans e2).trans (g1 k hk2))
end Go.Proofs.YtnbfnoebjjdmnaaGreat
