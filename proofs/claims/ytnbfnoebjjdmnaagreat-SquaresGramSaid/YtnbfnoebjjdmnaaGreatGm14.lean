/- Part 14 of the proof of squaresGram_holds. No condition. -/
import Derived.Maps.RangeWalk
import Derived.Test.YtnbfnoebjjdmnaaGreatGm4
import Derived.Test.YtnbfnoebjjdmnaaGreatGm13
set_option linter.unusedSimpArgs false
set_option linter.unusedVariables false
set_option maxRecDepth 100000
set_option maxHeartbeats 3200000
namespace Go.Proofs.YtnbfnoebjjdmnaaGreat
open Go.RowKit
open Go.ChangeMaps (setBlock)
theorem JJ{P:Program}{w w':World}{ops:Array Oper}{rest:List Oper}{o:Oper}{a:Act}{Q:Exit->Act->World->Prop}(hg:o.guard=none)(m:Operand)(t:TypeId)(hop:o.op=Op.range t m){vm v:Value}(hm:a.eval m=vm)
  (hr:(Instr.range t vm).run P w = .ok v w') (h:wpList P ops Q rest (a.put o.dst v) w'):wpList P ops Q (o::rest) a w:=by
 refine wpList_plain hg λK' hK'=>?_
 unfold Oper.wp
 simp [execOp,hop,hm,hr,Result.andThen]
 exact hK' _ _ h
theorem Hf{P:Program}{w w':World}{ops:Array Oper}{rest:List Oper}{o:Oper}{a:Act}{Q:Exit->Act->World->Prop}(hg:o.guard=none)(it:Operand)(hop:o.op=Op.next it false){vi v:Value}(hm:a.eval it=vi)
  (hr:(Instr.next vi false o.type).run P w = .ok v w') (h:wpList P ops Q rest (a.put o.dst v) w'):wpList P ops Q (o::rest) a w:=by
 refine wpList_plain hg λK' hK'=>?_
 unfold Oper.wp
 simp [execOp,hop,hm,hr,Result.andThen]
 exact hK' _ _ h
theorem KT{P:Program}{w w':World}{ops:Array Oper}{rest:List Oper}{o:Oper}{a:Act}{Q:Exit->Act->World->Prop}(hg:o.guard=none)(l c:Operand)(t:TypeId)(hop:o.op=Op.makeSlice t l c){vl vc v:Value}(hl:a.eval l=vl)(hc:a.eval c=vc)
  (hr:(Instr.makeSlice t vl vc).run P w = .ok v w') (h:wpList P ops Q rest (a.put o.dst v) w'):wpList P ops Q (o::rest) a w:=by
 refine wpList_plain hg λK' hK'=>?_
 unfold Oper.wp
 simp [execOp,hop,hl,hc,hr,Result.andThen]
 exact hK' _ _ h
theorem Pi{w w':World}(h:w.grownBy w' none):Ext w w':=(Ext.refl w).grown' h λk e=>by cases e
theorem YH(n:Nat)(hn:n<=1000000)(w:World):∃w',(Instr.makeSlice 44 (.int .i64 0) (.int .i64 (n:Int))).run Tryz.prog w = .ok (.slice (some ⟨w.heap.size,0,none⟩) 0 n) w'/\OwnP w.heap.size w' (.slice (some ⟨w.heap.size,0,none⟩) 0 n) []/\Ext w w':=by
 obtain ⟨i,hi,hz0,hz1,hz2⟩:=info_parts (show (Tryz.prog.info? 81).map (λi=>(i.zero,i.size,i.bytes))=some (some (.agg #[.bool false,.slice none 0 0,.bool false,.slice none 0 0,.int .i64 0,.int .i64 0,.int .i64 0,.int .i64 0,.int .i64 0,.int .i64 0,.int .i64 0,.int .i64 0]),12,128) by kernel_rfl)
 obtain ⟨w',h1,h2,h3⟩:=run_make_own (P:=Tryz.prog) w w.heap.size 44 81 i _ 12 Tryz.underlying44 hi hz0 hz1 .i64 .i64 n (by rw [hz2];omega) (by simp only [maxLen];omega) (Nat.le_refl _)
 exact ⟨w',h1,⟨[],rfl,h2,λi h=>absurd h (by simp)⟩,Pi h3⟩
theorem OwnP.kept{base:Nat}{w w':World}{v:Value}{P:List Tm}{row:Option Nat}(h:OwnP base w v P)(hg:w.grownBy w' row)(hu:∀b,row=some b->¬Ty w b 108)(ht:∀b,row=some b->¬Ty w b 81):OwnP base w' v P:=by
 have hty:=h.ty
 obtain ⟨cl,h1,h2,h3⟩:=h
 refine ⟨cl,h1,World.ownsRow.kept h2 hg ?_,λi hi=>(h3 i hi).kept hg hu⟩
 cases hv:v.ownBlock with
 | none=>exact .inl rfl
 | some b=>exact .inr λe=>ht b e.symm (hty b hv)
theorem OwnP.some_{base:Nat}{w:World}{A:Option Addr}{n c:Nat}{P:List Tm}(h:OwnP base w (.slice A n c) P)(h0:0<P.length):∃g,A=some ⟨g,0,none⟩:=by
 obtain ⟨_,_,⟨_,h2⟩,_⟩:=h
 rcases h2 with ⟨h3,h4⟩ | ⟨g,cap,cur,h3,_⟩
 .omega
 .cases h3;exact ⟨g,rfl⟩
def Dg(es:Array MapEntry)(I:List Nat):Array Nat:=(I.map λi=>(es[i]!).born).toArray
theorem LJ(es:Array MapEntry)(I:List Nat)(i:Nat):(Dg es I).push (es[i]!).born=Dg es (I++[i]):=by simp [Dg]
theorem Zj{es:Array MapEntry}(h:(es.toList.map (·.born)).Nodup){i j:Nat}(hi:i<es.size)(hj:j<es.size)(e:(es[i]!).born=(es[j]!).born):i=j:=by
 rw [getElem!_pos es i hi,getElem!_pos es j hj] at e
 have h1:=List.pairwise_iff_getElem.1 h
 rcases Nat.lt_trichotomy i j with hij | hij | hij
 .exact absurd (by rw [List.getElem_map,List.getElem_map,Array.getElem_toList,Array.getElem_toList];exact e) (h1 i j (by simpa using hi) (by simpa using hj) hij)
 .exact hij
 .exact absurd (by rw [List.getElem_map,List.getElem_map,Array.getElem_toList,Array.getElem_toList];exact e.symm) (h1 j i (by simpa using hj) (by simpa using hi) hij)
theorem VL{es:Array MapEntry}{I:List Nat}{e:MapEntry}(h:e∈(leftOf es (Dg es I)).toList):∃i,i<es.size/\i∉I/\es[i]! = e:=by
 unfold leftOf at h
 simp only [Array.toList_filter,List.mem_filter] at h
 obtain ⟨h1,h2⟩:=h
 obtain ⟨i,hi,rfl⟩:=List.mem_iff_getElem.1 h1
 have hi':i<es.size:=by simpa using hi
 refine ⟨i,hi',λhI=>?_,by rw [getElem!_pos es i hi'];simp⟩
 have:(Dg es I).contains (es.toList[i]).born=true:=by
  rw [Array.contains_iff_mem]
  simp only [Dg,List.mem_toArray,List.mem_map]
  exact ⟨i,hI,by rw [getElem!_pos es i hi'];simp⟩
 rw [this] at h2
 cases h2
theorem VM{es:Array MapEntry}{I:List Nat}(hn:(es.toList.map (·.born)).Nodup)(hI:∀i∈I,i<es.size)(h:(leftOf es (Dg es I)).size=0):∀i,i<es.size->i∈I:=λi hi=>by
 have h0:leftOf es (Dg es I)=#[]:=Array.eq_empty_of_size_eq_zero h
 unfold leftOf at h0
 rw [Array.filter_eq_empty_iff] at h0
 have h1:=h0 (es[i]) (Array.getElem_mem hi)
 have h2:(Dg es I).contains (es[i]).born=true:=by simpa using h1
 rw [Array.contains_iff_mem] at h2
 simp only [Dg,List.mem_toArray,List.mem_map] at h2
 obtain ⟨j,hj,e⟩:=h2
 have:=Zj hn (hI j hj) hi (by rw [e,getElem!_pos es i hi])
 rw [<-this];exact hj
noncomputable def nz (t:Tm):Bool:=decide (t.c≠0)
theorem SR(f:(Nat->Int)->Rat):∀P:List Tm,Dl f (P.filter nz)=Dl f P
 | []=>rfl
 | t::P=>by
  rw [List.filter_cons]
  split
  .simp only [Dl,SR f P]
  .rename_i h
   have h0:t.c=0:=by simpa [nz] using h
   simp only [Dl,SR f P,h0]
   grind
theorem JW:∀(n:Nat) (I:List Nat),I.Nodup->(∀i∈I,i<n)->I.length<=n
 | 0,[],_,_=>Nat.le_refl _
 | 0,i::I,_,h=>absurd (h i (by simp)) (Nat.not_lt_zero _)
 | n+1,I,hn,h=>by
  by_cases hm:n∈I
  .have h1:=JW n (I.erase n) (hn.erase n) λi hi=>by
    have h2:=(hn.mem_erase_iff).1 hi
    have h3:=h i h2.2
    have:=h2.1
    omega
   rw [List.length_erase_of_mem hm] at h1
   omega
  .have:=JW n I hn λi hi=>by
    have h3:=h i hi
    have:i≠n:=λe=>hm (by rw [<-e];exact hi)
    omega
   omega
structure Gath(E:List Tm)(I:List Nat)(P:List Tm):Prop where
 nd:I.Nodup
 lt:∀i∈I,i<E.length
 eq:P=(I.map (AZ E)).filter nz
theorem Gath.nil(E:List Tm):Gath E [] []:=⟨by simp,(λi h=>by cases h),rfl⟩
theorem Gath.len{E:List Tm}{I:List Nat}{P:List Tm}(h:Gath E I P):P.length<=E.length/\I.length<=E.length:=by
 have h1:I.length<=E.length:=by
  exact JW E.length I h.nd h.lt
 refine ⟨?_,h1⟩
 rw [h.eq]
 have:=List.length_filter_le nz (I.map (AZ E))
 simp at this
 omega
theorem Gath.step{E:List Tm}{I:List Nat}{P:List Tm}(h:Gath E I P){i:Nat}(hi:i<E.length)(hn:i∉I):((AZ E i).c=0->Gath E (I++[i]) P)/\((AZ E i).c≠0->Gath E (I++[i]) (P++[AZ E i])):=by
 have hnd:(I++[i]).Nodup:=by
  rw [List.nodup_append]
  exact ⟨h.nd, by simp, fun a ha b hb e => by
   have hb':b=i:=by simpa using hb
   subst hb'
   subst e
   exact hn ha⟩
 have hlt:∀j∈I++[i],j<E.length:=λj hj=>by
  rcases List.mem_append.1 hj with hj | hj
  .exact h.lt j hj
  .have:j=i:=by simpa using hj
   omega
 refine ⟨λh0=>⟨hnd,hlt,?_⟩,λh0=>⟨hnd,hlt,?_⟩⟩
 .rw [List.map_append,List.filter_append,<-h.eq]
  simp [nz,h0]
 .rw [List.map_append,List.filter_append,<-h.eq]
  simp [nz,h0]
theorem Gath.done{E:List Tm}{I:List Nat}{P S:List Tm}(h:Gath E I P)(hall:∀i,i<E.length->i∈I)(hpw:E.Pairwise λs t=>¬Eqv s.m t.m)(hp:S.Perm P)(hs:A1M S):Canon S/\Sim S E/\∀t∈S,t∈E:=by
 have hI:I.Perm (List.range E.length):=(List.perm_ext_iff_of_nodup h.nd List.nodup_range).2 λi=>by
  constructor
  .intro hi;simpa using h.lt i hi
  .intro hi;exact hall i (by simpa using hi)
 have hE:(List.range E.length).map (AZ E)=E:=by
  refine List.ext_getElem (by simp) λi q1 q2=>?_
  simp only [List.getElem_map,List.getElem_range]
  unfold AZ
  rw [List.getD_eq_getElem?_getD,List.getElem?_eq_getElem q2]
  rfl
 have hPE:P.Perm (E.filter nz):=by
  rw [h.eq]
  refine List.Perm.filter _ ?_
  have:=hI.map (AZ E)
  rwa [hE] at this
 have hSE:=hp.trans hPE
 refine ⟨⟨?_,λt ht=>?_⟩,λf hf=>?_,λt ht=>?_⟩
 .have hpw':S.Pairwise λs t=>¬Eqv s.m t.m:=(hSE.symm.pairwise_iff (λ{a b} (h:¬Eqv a.m b.m) e=>h e.symm)).1 (hpw.filter nz)
  rw [ZX,List.pairwise_iff_getElem]
  intro i j hi hj hij
  have h1:=hs i j hij hj
  have h2:=List.pairwise_iff_getElem.1 hpw' i j hi hj hij
  have e1:AZ S i=S[i]:=by unfold AZ;simp [hi]
  have e2:AZ S j=S[j]:=by unfold AZ;simp [hj]
  rw [e1,e2] at h1
  have h3:lx S[i].m S[j].m≠0:=λe=>h2 (FX.1 e)
  omega
 .have:=(List.mem_filter.1 (hSE.mem_iff.1 ht)).2
  simpa [nz] using this
 .rw [YX hSE,SR]
 .exact (List.mem_filter.1 (hSE.mem_iff.1 ht)).1
theorem Ph{w w1:World}{r:Nat}{o o':Obj}(h:Ext w w1)(hr:w.heap.size<=r)(hb:w1.heap[r]? = some o):Ext w (setBlock w1 r o'):=h.grown' (Er hb) λk e=>by cases e;exact hr
def EV(it:Nat)(w:World):Nat:=match w.heap[it]? with | some (.mapIter _ _ seen _)=>seen.size | _=>0
def Zs(w:World)(B it clock:Nat)(es:Array MapEntry)(E:List Tm)(wr:World)(I:List Nat)(P:List Tm)(g c:Nat):Prop:=
 OwnP w.heap.size wr (.slice (some ⟨g,0,none⟩) P.length c) P/\wr.heap[it]? = some (.mapIter (some B) clock (Dg es I) clock)/\Ext w wr/\Gath E I P
theorem Ss(B:Nat)(E:List Tm)(w:World)(hm:MapAt w B E)(hl:E.length<=100000) :
  Calls Tryz.prog 81 #[.map (some B)] w λe w'=>∃S,(Canon S/\Sim S E/\∀t∈S,t∈E)/\A17 S w e w':=by
 have hmw:=Ac hm
 obtain ⟨es,clock,hb,hkeys,hvals,hborn,hnd,hpw⟩:=hm
 have hlen:es.size=E.length:=by have:=congrArg List.length hkeys;simpa using this
 have hbl:B<w.heap.size:=AU hb
 obtain ⟨w1,hmk,hO,hE1⟩:=YH E.length (by omega) w
 have hlm:∀ty,(Builtin.len_ #[114] ty #[.map (some B)]).run Tryz.prog w = .ok (.int .i64 E.length) w:=λty=>by
  rw [<-hlen]
  exact run_len_map w 114 ty B es clock (by kernel_rfl) hb
 have hb1:w1.heap[B]? = some (.map es clock):=(hE1.block hbl).trans hb
 have hrg:=run_range_map (P:=Tryz.prog) w1 114 60 42 B es clock (by kernel_rfl) hb1
 have hkey:Hid (∀i,i<E.length->(es[i]!).key=VP (AZ E i)/\∀w',Ext w w'->RatV w' (es[i]!).val (AZ E i).c):=Ac λi hi=>by
  have hi':i<es.size:=by omega
  have e1:es.toList[i]? = some (es[i]!):=by rw [Array.getElem?_toList,getElem!_pos es i hi',Array.getElem?_eq_getElem hi']
  refine ⟨?_,λw' he=>(hvals i _ e1).ext he⟩
  have h9:(es.toList.map (·.key))[i]? = some (es[i]!).key:=by rw [List.getElem?_map,e1];rfl
  rw [hkeys,List.getElem?_map] at h9
  have h10:E[i]? = some (AZ E i):=by unfold AZ;rw [List.getD_eq_getElem?_getD,List.getElem?_eq_getElem hi];rfl
  rw [h10] at h9
  simpa using h9.symm
 replace hlen:=Ac hlen
 replace hmk:=Ac hmk
 replace hlm:=Ac hlm
 replace hrg:=Ac hrg
 replace hO:=Ac hO
 replace hE1:=Ac hE1
 replace hborn:=Ac hborn
 replace hnd:=Ac hnd
 replace hpw:=Ac hpw
 replace hb:=Ac hb
 replace hb1:=Ac hb1
 clear hkeys hvals
 have hlm':=hlm.out 3
 go_enter Tryz.func81,Tryz.ntmps81
 go_upto_region 2 with (first | (at_make;refine KT rfl _ _ 44 rfl rfl rfl hmk.out ?_) | go_in)
 clear hlm'
 have hI0:Hid (Zs w B w1.heap.size clock es E (w1.alloc (.mapIter (some B) clock #[] clock)) [] [] w.heap.size E.length):=⟨hO.out.ext ((Ext.refl _).alloc _),heap_alloc_new w1 _,hE1.out.alloc _,Gath.nil E⟩
 go_wp2_with (first | (at_range;refine JJ rfl _ 114 rfl rfl hrg.out ?_) | go_in)
 simp only [Act.put,List.setIfInBounds_toArray,List.set_cons_succ,List.set_cons_zero]
 have hitw:w.heap.size<=w1.heap.size:=hE1.out.size
 generalize (w1.alloc (.mapIter (some B) clock #[] clock))=w2 at *
 generalize w1.heap.size=it at *
 clear hrg hmk hlm hO hb1 hE1
 go_loopw [3] (λs wr=>∃(I:List Nat) (P:List Tm) (l g c:Nat),l=P.length/\s = .slice (some ⟨g,0,none⟩) l c/\Hid (Zs w B it clock es E wr I P g c)) (λ_ wr=>E.length-EV it wr)
 case atStart=>exact ⟨[],[],0,_,_,rfl,rfl,hI0.out⟩
 case round=>
  clear hI0
  obtain ⟨I,P,l,g,c,hl0,rfl,hI⟩:=hrel
  obtain ⟨hO,hit,hEw,hG⟩:=hI.out
  have hbr:wr.heap[B]? = some (.map es clock):=(hEw.block hbl).trans hb.out
  have hbound:=hG.len
  have hsn:EV it wr=I.length:=by unfold EV;rw [hit];simp [Dg]
  rcases run_next_at (P:=Tryz.prog) wr 0 it B clock clock (Dg es I) es clock hit hbr hborn.out (Nat.le_refl _) with ⟨h0,hnx⟩ | ⟨e,he,wd,hwd,hnx⟩
  .have hall:=VM hnd.out (λi hi=>by rw [hlen.out]; exact hG.lt i hi) h0
   rw [hlen.out] at hall
   replace hnx:=Ac hnx
   replace hall:=Ac hall
   replace hl0:=Ac hl0
   have hO':=Ac hO
   have hG':=Ac hG
   have hEw':=Ac hEw
   clear hO hG hEw hit hbr h0 hsn hI
   go_wp2_with (first | (at_next;refine Hf rfl _ rfl rfl hnx.out ?_) | fail)
   rw [hl0.out]
   refine (WH hO'.out (by omega)).mono ?_
   rintro e w5 ⟨rfl,hg5,S,hp,hf,hS⟩
   have hE5:=Ac (hEw'.out.grown' hg5 λk e=>by cases e;exact hO'.out.base_le g rfl)
   have hdone:=Ac (hG'.out.done hall.out hpw.out hp hf)
   have hSl:Hid (P.length=S.length):=Ac hp.length_eq.symm
   replace hS:=Ac hS
   clear hg5 hp hf
   go_wp2
   go_ret
   refine ⟨S,hdone.out,some ⟨g,0,none⟩,c,?_,?_,hE5.out⟩
   .rw [<-hSl.out];rfl
   .have:=hS.out
    rw [hSl.out] at this
    exact this
  .obtain ⟨i,hi,hni,rfl⟩:=VL he
   rw [hlen.out] at hi
   rw [LJ] at hnx
   obtain ⟨hk1,hk2⟩:=hkey.out i hi
   have hEd:Ext w wd:=by rcases hwd with rfl | rfl;exact hEw;exact hEw.drew
   have hOd:OwnP w.heap.size wd (.slice (some ⟨g,0,none⟩) P.length c) P:=by rcases hwd with rfl | rfl;exact hO;exact hO.ext (Ext.refl _).drew
   have hitd:wd.heap[it]? = some (.mapIter (some B) clock (Dg es I) clock):=by rcases hwd with rfl | rfl<;>exact hit
   have hnoty:∀t,¬Ty wd it t:=λt ⟨cs,fz,h⟩=>by rw [hitd] at h;cases h
   have hgs:=Er (o':=.mapIter (some B) clock (Dg es (I++[i])) clock) hitd
   have hO3:=Ac (hOd.kept hgs (λb e=>by cases e;exact hnoty _) (λb e=>by cases e;exact hnoty _))
   have hE3:=Ac (Ph (o':=.mapIter (some B) clock (Dg es (I++[i])) clock) hEd hitw hitd)
   have hit3:Hid ((setBlock wd it (.mapIter (some B) clock (Dg es (I++[i])) clock)).heap[it]? = some (.mapIter (some B) clock (Dg es (I++[i])) clock)):=Gi hitd
   have hb3:(setBlock wd it (.mapIter (some B) clock (Dg es (I++[i])) clock)).heap[B]? = some (.map es clock):=(hE3.out.block hbl).trans hb.out
   have hen:=run_entry_at (P:=Tryz.prog) (setBlock wd it (.mapIter (some B) clock (Dg es (I++[i])) clock)) it B clock (Dg es I) es clock (es[i]!) (by rw [LJ];exact hit3.out) hb3 (by rw [getElem!_pos es i (by rw [hlen.out];exact hi)];simp) hnd.out
   obtain ⟨b,b',A,A',n,k,n',k',Fd,hq⟩:=hk2 _ hE3.out
   rw [hk1,Fd] at hnx hen
   have hgst:=Ac (hG.step hi hni)
   replace hnx:=Ac hnx
   replace hl0:=Ac hl0
   clear hI hO hit hEw hbr he hni hk1 hk2 hEd hOd hitd hnoty hgs hb3 Fd hwd hG
   generalize (setBlock wd it (.mapIter (some B) clock (Dg es (I++[i])) clock))=w3 at *
   generalize htt:AZ E i=t at *
   have hen':(Instr.entry (.pointer (some ⟨it,0,none⟩))).run Tryz.prog w3 = .ok (.tuple #[.agg #[.int .i64 (t.m 0),.int .i64 (t.m 1),.int .i64 (t.m 2),.int .i64 (t.m 3),.int .i64 (t.m 4),.int .i64 (t.m 5),.int .i64 (t.m 6),.int .i64 (t.m 7)],.agg #[.bool b,.slice A n k,.bool b',.slice A' n' k']]) w3:=hen
   clear hen
   have hb4:Hid (Blk ((w3.alloc (.cells #[.int .i64 (t.m 0),.int .i64 (t.m 1),.int .i64 (t.m 2),.int .i64 (t.m 3),.int .i64 (t.m 4),.int .i64 (t.m 5),.int .i64 (t.m 6),.int .i64 (t.m 7)] 60)).alloc (.cells #[.bool b,.slice A n k,.bool b',.slice A' n' k'] 42)) w3.heap.size 60 (c8 t.m)):=(Blk.new _ _ _).alloc _
   have hb5:Hid (Blk ((w3.alloc (.cells #[.int .i64 (t.m 0),.int .i64 (t.m 1),.int .i64 (t.m 2),.int .i64 (t.m 3),.int .i64 (t.m 4),.int .i64 (t.m 5),.int .i64 (t.m 6),.int .i64 (t.m 7)] 60)).alloc (.cells #[.bool b,.slice A n k,.bool b',.slice A' n' k'] 42)) (w3.heap.size+1) 42 #[.bool b,.slice A n k,.bool b',.slice A' n' k']):=AW _ _ (by simp)
   have hE4:Hid (Ext w3 ((w3.alloc (.cells #[.int .i64 (t.m 0),.int .i64 (t.m 1),.int .i64 (t.m 2),.int .i64 (t.m 3),.int .i64 (t.m 4),.int .i64 (t.m 5),.int .i64 (t.m 6),.int .i64 (t.m 7)] 60)).alloc (.cells #[.bool b,.slice A n k,.bool b',.slice A' n' k'] 42))):=((Ext.refl _).alloc _).alloc _
   replace hq:=Ac (hq.ext hE4.out)
   go_upto_region 5 with (first | (at_next;refine Hf rfl _ rfl rfl hnx.out ?_) | go_in)
   generalize ((w3.alloc (.cells #[.int .i64 (t.m 0),.int .i64 (t.m 1),.int .i64 (t.m 2),.int .i64 (t.m 3),.int .i64 (t.m 4),.int .i64 (t.m 5),.int .i64 (t.m 6),.int .i64 (t.m 7)] 60)).alloc (.cells #[.bool b,.slice A n k,.bool b',.slice A' n' k'] 42))=w4 at *
   generalize w3.heap.size=B4 at *
   have y0:w4.cell? ⟨B4+1,0,none⟩=some (.bool b):=hb5.out.cell 0
   have y1:w4.cell? ⟨B4+1,1,none⟩=some (.slice A n k):=hb5.out.cell 1
   have y2:w4.cell? ⟨B4+1,2,none⟩=some (.bool b'):=hb5.out.cell 2
   have y3:w4.cell? ⟨B4+1,3,none⟩=some (.slice A' n' k'):=hb5.out.cell 3
   clear hen' hnx
   go_wp2_with fail
   refine (Rq b b' A A' n k n' k' t.c _ hq.out).mono ?_
   rintro e w5 ⟨rfl,hE5⟩
   clear y0 y1 y2 y3
   have hE6:=Ac (hE3.out.trans (hE4.out.trans hE5))
   have hO6:=Ac (hO3.out.ext (hE4.out.trans hE5))
   have hit6:Hid (w5.heap[it]? = some (.mapIter (some B) clock (Dg es (I++[i])) clock)):=(((hE4.out.trans hE5).block (AU hit3.out)).trans hit3.out)
   have hms:Hid (E.length-EV it w5<E.length-EV it wr):=by
    have h1:EV it w5=I.length+1:=by unfold EV;rw [hit6.out];simp [Dg]
    have h2:=(hgst.out)
    show E.length-EV it w5<E.length-EV it wr
    rw [h1,hsn]
    have:(I++[i]).length<=E.length:=by
     by_cases hz:t.c=0
     .exact (h2.1 hz).len.2
     .exact (h2.2 hz).len.2
    simp at this
    omega
   by_cases hz:t.c=0
   .have hs0:t.c.num.sign=0:=by rw [hz]; rfl
    have hG2:=Ac (hgst.out.1 hz)
    rw [hs0]
    replace hz:=Ac hz
    replace hE5:=Ac hE5
    clear hs0 hsn
    go_wp2
    exact ⟨⟨I++[i],P,l,g,c,hl0.out,rfl,(⟨hO6.out,hit6.out,hE6.out,hG2.out⟩:Zs w B it clock es E w5 (I++[i]) P g c)⟩,hms.out⟩
   .have hs0:¬t.c.num.sign=0:=λe=>hz (by
     have:=Int.sign_eq_zero_iff_zero.1 e
     exact Rat.num_eq_zero.1 this)
    have hG2:=Ac (hgst.out.2 hz)
    have hq5:=Ac (hq.out.ext hE5)
    have hb4':=Ac (hb4.out.ext hE5)
    have hb5':=Ac (hb5.out.ext hE5)
    generalize t.c.num.sign=sg at *
    replace hz:=Ac hz
    replace hE5:=Ac hE5
    have hbt:Hid (Blk (w5.alloc (.cells #[.bool b,.slice A n k,.bool b',.slice A' n' k',.int .i64 (t.m 0),.int .i64 (t.m 1),.int .i64 (t.m 2),.int .i64 (t.m 3),.int .i64 (t.m 4),.int .i64 (t.m 5),.int .i64 (t.m 6),.int .i64 (t.m 7)] 81)) w5.heap.size 81 #[.bool b,.slice A n k,.bool b',.slice A' n' k',.int .i64 (t.m 0),.int .i64 (t.m 1),.int .i64 (t.m 2),.int .i64 (t.m 3),.int .i64 (t.m 4),.int .i64 (t.m 5),.int .i64 (t.m 6),.int .i64 (t.m 7)]):=Blk.new _ _ _
    have hE7:Hid (Ext w5 (w5.alloc (.cells #[.bool b,.slice A n k,.bool b',.slice A' n' k',.int .i64 (t.m 0),.int .i64 (t.m 1),.int .i64 (t.m 2),.int .i64 (t.m 3),.int .i64 (t.m 4),.int .i64 (t.m 5),.int .i64 (t.m 6),.int .i64 (t.m 7)] 81))):=(Ext.refl _).alloc _
    obtain ⟨A9,c9,w9,hrun,hO9,hg9⟩:=Ro (hO6.out.ext hE7.out) hbt.out ⟨b,b',A,A',n,k,n',k',rfl,hq5.out.ext hE7.out⟩ (hE6.out.trans hE7.out).size (by omega)
    have hE9:=Ac ((hE6.out.trans hE7.out).grown' hg9 λk e=>by cases e;exact hO6.out.base_le g rfl)
    have hit9:Hid (w9.heap[it]? = some (.mapIter (some B) clock (Dg es (I++[i])) clock)):=by
     have h1:(w5.alloc (.cells #[.bool b,.slice A n k,.bool b',.slice A' n' k',.int .i64 (t.m 0),.int .i64 (t.m 1),.int .i64 (t.m 2),.int .i64 (t.m 3),.int .i64 (t.m 4),.int .i64 (t.m 5),.int .i64 (t.m 6),.int .i64 (t.m 7)] 81)).heap[it]? = some (.mapIter (some B) clock (Dg es (I++[i])) clock):=(hE7.out.block (AU hit6.out)).trans hit6.out
     refine (hg9.block it (AU h1) λe=>?_).trans h1
     obtain ⟨cs,fz,h2⟩:=(hO6.out.ext hE7.out).ty it e.symm
     rw [h1] at h2
     cases h2
    obtain ⟨g9,rfl⟩:=hO9.some_ (by simp)
    have hms9:Hid (E.length-EV it w9<E.length-EV it wr):=by
     have h1:EV it w9=EV it w5:=by unfold EV;rw [hit9.out,hit6.out]
     show E.length-EV it w9<E.length-EV it wr
     rw [h1]
     exact hms.out
    have hlp:Hid (P.length+1=(P++[t]).length):=by show P.length+1=_;simp
    rw [<-hl0.out] at hrun hO9
    replace hrun:=Ac hrun
    replace hO9:=Ac hO9
    have x0:(w5).cell? ⟨B4,0,none⟩=some (.int .i64 (t.m 0)):=(hb4'.out).cell 0
    have x1:(w5).cell? ⟨B4,1,none⟩=some (.int .i64 (t.m 1)):=(hb4'.out).cell 1
    have x2:(w5).cell? ⟨B4,2,none⟩=some (.int .i64 (t.m 2)):=(hb4'.out).cell 2
    have x3:(w5).cell? ⟨B4,3,none⟩=some (.int .i64 (t.m 3)):=(hb4'.out).cell 3
    have x4:(w5).cell? ⟨B4,4,none⟩=some (.int .i64 (t.m 4)):=(hb4'.out).cell 4
    have x5:(w5).cell? ⟨B4,5,none⟩=some (.int .i64 (t.m 5)):=(hb4'.out).cell 5
    have x6:(w5).cell? ⟨B4,6,none⟩=some (.int .i64 (t.m 6)):=(hb4'.out).cell 6
    have x7:(w5).cell? ⟨B4,7,none⟩=some (.int .i64 (t.m 7)):=(hb4'.out).cell 7
    have y0:w5.cell? ⟨B4+1,0,none⟩=some (.bool b):=hb5'.out.cell 0
    have y1:w5.cell? ⟨B4+1,1,none⟩=some (.slice A n k):=hb5'.out.cell 1
    have y2:w5.cell? ⟨B4+1,2,none⟩=some (.bool b'):=hb5'.out.cell 2
    have y3:w5.cell? ⟨B4+1,3,none⟩=some (.slice A' n' k'):=hb5'.out.cell 3
    clear hsn hg9 hO6 hit6 hgst
    go_wp2_with (at_builtin;go_loud (refine FT rfl _ _ _ rfl _ _ rfl rfl hrun.out ?_))
    exact ⟨⟨I++[i],P++[t],l+1,g9,c9,by rw [hl0.out];exact hlp.out,rfl,(by unfold Zs;rw [<-hlp.out,<-hl0.out];exact ⟨hO9.out,hit9.out,hE9.out,hG2.out⟩:Zs w B it clock es E w9 (I++[i]) (P++[t]) g9 c9)⟩,hms9.out⟩
def LQ(s:Tm)(Q:List Tm):List Tm:=Q.map λt=>⟨s.c*t.c,Ba s.m t.m⟩
theorem VF(P Q:List Tm)(s:Tm):Hk (P++[s]) Q=Hk P Q++LQ s Q:=by simp [Hk,LQ]
theorem Vn(s:Tm)(Q:List Tm)(t:Tm):LQ s (Q++[t])=LQ s Q++[⟨s.c*t.c,Ba s.m t.m⟩]:=by simp [LQ]
structure Colld(E G:List Tm)(n D:Nat)(hi:Int):Prop where
 sim:Sim E G
 len:E.length<=n
 sz:PSz E (n*D)
 in_:PIn E 0 hi
theorem Colld.nil(D:Nat)(hi:Int):Colld [] [] 0 D hi:=⟨Sim.refl _,by simp,(λt h=>by cases h),(λt h=>by cases h)⟩
theorem Colld.step{E E' G:List Tm}{n D T:Nat}{hi:Int}{q:Rat}{a:Nat->Int}(h:Colld E G n D hi)(hc:Coll E q a E')(hq:RSz q T)(hD:T+1<=D)(ha:In8 a 0 hi):Colld E' (G++[⟨q,a⟩]) (n+1) D hi:=by
 refine ⟨hc.sim.trans (h.sim.append (Sim.refl _)),Nat.le_trans hc.length (by have:=h.len;omega),(hc.sz h.sz hq).mono ?_,hc.in_ h.in_ ha⟩
 rw [Nat.succ_mul]
 omega
theorem Pr{S:List Tm}(h:ZX S):S.Nodup:=by
 unfold ZX at h
 refine List.Pairwise.imp ?_ h
 intro a b hab e
 rw [e,Ux] at hab
 omega
theorem Wz{S E:List Tm}(h:Canon S)(hm:∀t∈S,t∈E):S.length<=E.length:=(Pr h.1).length_le_of_subset hm
theorem ZO(v u:Value)(P Q:List Tm)(w:World)(h:PolAt w v P)(h':PolAt w u Q)(N M:Nat)(hP:PSz P N)(hQ:PSz Q M)(p q:Int)(hPi:PIn P 0 p)(hQi:PIn Q 0 q)(hpq:p+q<=65535)(hp0:0<=p)(hq0:0<=q)(hn:P.length*Q.length<=100000)(hNM:N+M+1<=10000000) :
  Calls Tryz.prog 47 #[v,u] w λe w'=>∃S,Canon S/\Sim S (Hk P Q)/\PIn S 0 (p+q)/\PSz S (P.length*Q.length*(N+M+1))/\S.length<=P.length*Q.length/\Zw 0 S w e w':=by
 obtain ⟨A0,c0,rfl,hc0,hm0,_⟩:=id h
 obtain ⟨A1,c1,rfl,hc1,hm1,_⟩:=id h'
 obtain ⟨np,hnp⟩:∃np,np=P.length:=⟨_,rfl⟩
 obtain ⟨nq,hnq⟩:∃nq,nq=Q.length:=⟨_,rfl⟩
 obtain ⟨D,hD⟩:∃D,D=N+M+1:=⟨_,rfl⟩
 rw [<-hnp,<-hnq] at hn
 rw [<-hnp] at h hc0 ⊢
 rw [<-hnq] at h' hc1 ⊢
 rw [<-hD]
 have hsm:∀s∈P,∀t∈Q,In8 s.m 0 65535/\In8 t.m 0 65535/\In8 (Ba s.m t.m) 0 65535/\In8 (Ba s.m t.m) 0 (p+q):=λs hs t ht=>by
  refine ⟨λi hi=>?_,λi hi=>?_,λi hi=>?_,λi hi=>?_⟩
  all_goals
   have h1:=hPi s hs i hi
   have h2:=hQi t ht i hi
   try simp only [Ba]
   omega
 have hMb:Hid (MapAt (w.alloc (.map #[] 0)) w.heap.size []/\Ext w (w.alloc (.map #[] 0))):=⟨MapAt.new w,(Ext.refl w).alloc _⟩
 have hmm:=@run_makeMap Tryz.prog
 replace h:=Ac h
 replace h':=Ac h'
 replace hP:=Ac hP
 replace hQ:=Ac hQ
 replace hsm:=Ac hsm
 replace hn:=Ac hn
 replace hnp:=Ac hnp
 replace hnq:=Ac hnq
 replace hD:=Ac hD
 clear hPi hQi
 go_enter Tryz.func47,Tryz.ntmps47
 go_wp2
 clear hmm
 generalize (w.alloc (.map #[] 0))=w0 at *
 obtain ⟨B,hB⟩:∃B,B=w.heap.size:=⟨_,rfl⟩
 rw [<-hB] at hMb ⊢
 replace hB:=Ac hB
 go_loopw [16] (λi wr=>∃(k:Nat) (E:List Tm),k<=np/\i = .int .i64 k/\Hid (MapAt wr B E/\Colld E (Hk (P.take k) Q) (k*nq) D (p+q)/\Ext w wr)) (λi _=>np-(intOf i).toNat)
 case atStart=>exact ⟨0,[],by omega,rfl,hMb.out.1,by rw [Nat.zero_mul];exact Colld.nil _ _,hMb.out.2⟩
 case round=>
  clear hMb
  obtain ⟨k,E,hk,rfl,hI⟩:=hrel
  by_cases hlt:k<np
  .have hdk:decide (k<np)=true:=by simpa using hlt
   have hkm:Hid (AZ P k∈P):=CY (by rw [<-hnp.out];exact hlt)
   have htk:Hid (Hk (P.take (k+1)) Q=Hk (P.take k) Q++LQ (AZ P k) Q):=by
    show _=_
    rw [<-Ft (by rw [<-hnp.out];exact hlt),VF]
   obtain ⟨-,-,-,gx,ox,bx,bx',Ax,Ax',nx,cx,nx',cx',rfl,hgx,hcx,hsx⟩:=(h.out.ext hI.out.2.2).term (k:=k) (by rw [<-hnp.out];exact hlt)
   have hsN:=Ac (hP.out _ hkm.out)
   have x0:wr.cell? ⟨gx,ox+k*12,none⟩=some (.bool bx):=hcx 0 (by omega)
   have x1:wr.cell? ⟨gx,ox+k*12+1,none⟩=some (.slice Ax nx cx):=hcx 1 (by omega)
   have x2:wr.cell? ⟨gx,ox+k*12+2,none⟩=some (.bool bx'):=hcx 2 (by omega)
   have x3:wr.cell? ⟨gx,ox+k*12+3,none⟩=some (.slice Ax' nx' cx'):=hcx 3 (by omega)
   have x4:wr.cell? ⟨gx,ox+k*12+4,none⟩=some (.int .i64 ((AZ P k).m 0)):=hcx 4 (by omega)
   have x5:wr.cell? ⟨gx,ox+k*12+5,none⟩=some (.int .i64 ((AZ P k).m 1)):=hcx 5 (by omega)
   have x6:wr.cell? ⟨gx,ox+k*12+6,none⟩=some (.int .i64 ((AZ P k).m 2)):=hcx 6 (by omega)
   have x7:wr.cell? ⟨gx,ox+k*12+7,none⟩=some (.int .i64 ((AZ P k).m 3)):=hcx 7 (by omega)
   have x8:wr.cell? ⟨gx,ox+k*12+8,none⟩=some (.int .i64 ((AZ P k).m 4)):=hcx 8 (by omega)
   have x9:wr.cell? ⟨gx,ox+k*12+9,none⟩=some (.int .i64 ((AZ P k).m 5)):=hcx 9 (by omega)
   have x10:wr.cell? ⟨gx,ox+k*12+10,none⟩=some (.int .i64 ((AZ P k).m 6)):=hcx 10 (by omega)
   have x11:wr.cell? ⟨gx,ox+k*12+11,none⟩=some (.int .i64 ((AZ P k).m 7)):=hcx 11 (by omega)
   have hb8:Hid (Blk (wr.alloc (.cells #[.bool bx,.slice Ax nx cx,.bool bx',.slice Ax' nx' cx',.int .i64 ((AZ P k).m 0),.int .i64 ((AZ P k).m 1),.int .i64 ((AZ P k).m 2),.int .i64 ((AZ P k).m 3),.int .i64 ((AZ P k).m 4),.int .i64 ((AZ P k).m 5),.int .i64 ((AZ P k).m 6),.int .i64 ((AZ P k).m 7)] 81)) wr.heap.size 81 #[.bool bx,.slice Ax nx cx,.bool bx',.slice Ax' nx' cx',.int .i64 ((AZ P k).m 0),.int .i64 ((AZ P k).m 1),.int .i64 ((AZ P k).m 2),.int .i64 ((AZ P k).m 3),.int .i64 ((AZ P k).m 4),.int .i64 ((AZ P k).m 5),.int .i64 ((AZ P k).m 6),.int .i64 ((AZ P k).m 7)]):=Blk.new _ _ _
   have hE8:Hid (Ext wr (wr.alloc (.cells #[.bool bx,.slice Ax nx cx,.bool bx',.slice Ax' nx' cx',.int .i64 ((AZ P k).m 0),.int .i64 ((AZ P k).m 1),.int .i64 ((AZ P k).m 2),.int .i64 ((AZ P k).m 3),.int .i64 ((AZ P k).m 4),.int .i64 ((AZ P k).m 5),.int .i64 ((AZ P k).m 6),.int .i64 ((AZ P k).m 7)] 81))):=(Ext.refl wr).alloc _
   have hI8:Hid (MapAt (wr.alloc (.cells #[.bool bx,.slice Ax nx cx,.bool bx',.slice Ax' nx' cx',.int .i64 ((AZ P k).m 0),.int .i64 ((AZ P k).m 1),.int .i64 ((AZ P k).m 2),.int .i64 ((AZ P k).m 3),.int .i64 ((AZ P k).m 4),.int .i64 ((AZ P k).m 5),.int .i64 ((AZ P k).m 6),.int .i64 ((AZ P k).m 7)] 81)) B E/\Ext w (wr.alloc (.cells #[.bool bx,.slice Ax nx cx,.bool bx',.slice Ax' nx' cx',.int .i64 ((AZ P k).m 0),.int .i64 ((AZ P k).m 1),.int .i64 ((AZ P k).m 2),.int .i64 ((AZ P k).m 3),.int .i64 ((AZ P k).m 4),.int .i64 ((AZ P k).m 5),.int .i64 ((AZ P k).m 6),.int .i64 ((AZ P k).m 7)] 81))):=⟨hI.out.1.ext hE8.out,hI.out.2.2.trans hE8.out⟩
   have hC8:=Ac hI.out.2.1
   replace hsx:=Ac (hsx.ext hE8.out)
   clear hcx hgx hI
   generalize hs0:AZ P k=s at *
   clear hs0
   have hBr:Hid (B<wr.heap.size):=by
    have h1:=hI8.out.1.lt
    rcases Nat.lt_or_ge B wr.heap.size with h2 | h2
    .exact h2
    .exfalso
     have h3:B=wr.heap.size:=by have:=Blk.lt hb8.out;have h4:(wr.alloc (.cells #[.bool bx,.slice Ax nx cx,.bool bx',.slice Ax' nx' cx',.int .i64 (s.m 0),.int .i64 (s.m 1),.int .i64 (s.m 2),.int .i64 (s.m 3),.int .i64 (s.m 4),.int .i64 (s.m 5),.int .i64 (s.m 6),.int .i64 (s.m 7)] 81)).heap.size=wr.heap.size+1:=Array.size_push ..;omega
     exact hI8.out.1.notU 81 (by rw [h3];exact hb8.out.ty)
   go_wp2
   clear x0 x1 x2 x3 x4 x5 x6 x7 x8 x9 x10 x11
   generalize (wr.alloc (.cells #[.bool bx,.slice Ax nx cx,.bool bx',.slice Ax' nx' cx',.int .i64 (s.m 0),.int .i64 (s.m 1),.int .i64 (s.m 2),.int .i64 (s.m 3),.int .i64 (s.m 4),.int .i64 (s.m 5),.int .i64 (s.m 6),.int .i64 (s.m 7)] 81))=w8 at *
   obtain ⟨B8,hB8⟩:∃B8,B8=wr.heap.size:=⟨_,rfl⟩
   rw [<-hB8] at hb8 hBr ⊢
   replace hB8:=Ac hB8
   have hne8:B≠B8:=Nat.ne_of_lt hBr.out
   clear hE8
   go_loopw [22] (λj wr=>∃(l:Nat) (E:List Tm),l<=nq/\j = .int .i64 l/\Hid (MapAt wr B E/\Colld E (Hk (P.take k) Q++LQ s (Q.take l)) (k*nq+l) D (p+q)/\Ext w wr/\Blk wr B8 81 #[.bool bx,.slice Ax nx cx,.bool bx',.slice Ax' nx' cx',.int .i64 (s.m 0),.int .i64 (s.m 1),.int .i64 (s.m 2),.int .i64 (s.m 3),.int .i64 (s.m 4),.int .i64 (s.m 5),.int .i64 (s.m 6),.int .i64 (s.m 7)]/\IsRat wr (.bool bx) (.slice Ax nx cx) (.bool bx') (.slice Ax' nx' cx') s.c)) (λj _=>nq-(intOf j).toNat)
   case atStart=>exact ⟨0,E,by omega,rfl,hI8.out.1,by rw [Nat.add_zero];simpa [LQ] using hC8.out,hI8.out.2,hb8.out,hsx.out⟩
   case round=>
    clear hI8 hC8 hb8 hsx E
    obtain ⟨l,E,hl,rfl,hI⟩:=hrel
    by_cases hlq:l<nq
    .have hdl:decide (l<nq)=true:=by simpa using hlq
     have hlm:Hid (AZ Q l∈Q):=CY (by rw [<-hnq.out];exact hlq)
     have hrl:Hid (LQ s (Q.take (l+1))=LQ s (Q.take l)++[⟨s.c*(AZ Q l).c,Ba s.m (AZ Q l).m⟩]):=by
      show _=_
      rw [<-Ft (by rw [<-hnq.out];exact hlq),Vn]
     obtain ⟨-,-,-,gy,oy,bz,bz',Ay,Ay',ny,cy,ny',cy',rfl,hgy,hcy,hsy⟩:=(h'.out.ext hI.out.2.2.1).term (k:=l) (by rw [<-hnq.out];exact hlq)
     have htM:=Ac (hQ.out _ hlm.out)
     have hst:=Ac (hsm.out s hkm.out _ hlm.out)
     have y0:wr.cell? ⟨gy,oy+l*12,none⟩=some (.bool bz):=hcy 0 (by omega)
     have y1:wr.cell? ⟨gy,oy+l*12+1,none⟩=some (.slice Ay ny cy):=hcy 1 (by omega)
     have y2:wr.cell? ⟨gy,oy+l*12+2,none⟩=some (.bool bz'):=hcy 2 (by omega)
     have y3:wr.cell? ⟨gy,oy+l*12+3,none⟩=some (.slice Ay' ny' cy'):=hcy 3 (by omega)
     have y4:wr.cell? ⟨gy,oy+l*12+4,none⟩=some (.int .i64 ((AZ Q l).m 0)):=hcy 4 (by omega)
     have y5:wr.cell? ⟨gy,oy+l*12+5,none⟩=some (.int .i64 ((AZ Q l).m 1)):=hcy 5 (by omega)
     have y6:wr.cell? ⟨gy,oy+l*12+6,none⟩=some (.int .i64 ((AZ Q l).m 2)):=hcy 6 (by omega)
     have y7:wr.cell? ⟨gy,oy+l*12+7,none⟩=some (.int .i64 ((AZ Q l).m 3)):=hcy 7 (by omega)
     have y8:wr.cell? ⟨gy,oy+l*12+8,none⟩=some (.int .i64 ((AZ Q l).m 4)):=hcy 8 (by omega)
     have y9:wr.cell? ⟨gy,oy+l*12+9,none⟩=some (.int .i64 ((AZ Q l).m 5)):=hcy 9 (by omega)
     have y10:wr.cell? ⟨gy,oy+l*12+10,none⟩=some (.int .i64 ((AZ Q l).m 6)):=hcy 10 (by omega)
     have y11:wr.cell? ⟨gy,oy+l*12+11,none⟩=some (.int .i64 ((AZ Q l).m 7)):=hcy 11 (by omega)
     have hb10:Hid (Blk (wr.alloc (.cells #[.bool bz,.slice Ay ny cy,.bool bz',.slice Ay' ny' cy',.int .i64 ((AZ Q l).m 0),.int .i64 ((AZ Q l).m 1),.int .i64 ((AZ Q l).m 2),.int .i64 ((AZ Q l).m 3),.int .i64 ((AZ Q l).m 4),.int .i64 ((AZ Q l).m 5),.int .i64 ((AZ Q l).m 6),.int .i64 ((AZ Q l).m 7)] 81)) wr.heap.size 81 #[.bool bz,.slice Ay ny cy,.bool bz',.slice Ay' ny' cy',.int .i64 ((AZ Q l).m 0),.int .i64 ((AZ Q l).m 1),.int .i64 ((AZ Q l).m 2),.int .i64 ((AZ Q l).m 3),.int .i64 ((AZ Q l).m 4),.int .i64 ((AZ Q l).m 5),.int .i64 ((AZ Q l).m 6),.int .i64 ((AZ Q l).m 7)]):=Blk.new _ _ _
     have hE10:Hid (Ext wr (wr.alloc (.cells #[.bool bz,.slice Ay ny cy,.bool bz',.slice Ay' ny' cy',.int .i64 ((AZ Q l).m 0),.int .i64 ((AZ Q l).m 1),.int .i64 ((AZ Q l).m 2),.int .i64 ((AZ Q l).m 3),.int .i64 ((AZ Q l).m 4),.int .i64 ((AZ Q l).m 5),.int .i64 ((AZ Q l).m 6),.int .i64 ((AZ Q l).m 7)] 81))):=(Ext.refl wr).alloc _
     have hI10:Hid (MapAt (wr.alloc (.cells #[.bool bz,.slice Ay ny cy,.bool bz',.slice Ay' ny' cy',.int .i64 ((AZ Q l).m 0),.int .i64 ((AZ Q l).m 1),.int .i64 ((AZ Q l).m 2),.int .i64 ((AZ Q l).m 3),.int .i64 ((AZ Q l).m 4),.int .i64 ((AZ Q l).m 5),.int .i64 ((AZ Q l).m 6),.int .i64 ((AZ Q l).m 7)] 81)) B E/\Ext w (wr.alloc (.cells #[.bool bz,.slice Ay ny cy,.bool bz',.slice Ay' ny' cy',.int .i64 ((AZ Q l).m 0),.int .i64 ((AZ Q l).m 1),.int .i64 ((AZ Q l).m 2),.int .i64 ((AZ Q l).m 3),.int .i64 ((AZ Q l).m 4),.int .i64 ((AZ Q l).m 5),.int .i64 ((AZ Q l).m 6),.int .i64 ((AZ Q l).m 7)] 81))):=⟨hI.out.1.ext hE10.out,hI.out.2.2.1.trans hE10.out⟩
     have hC:=Ac hI.out.2.1
     have hb8:=Ac (hI.out.2.2.2.1.ext hE10.out)
     have hsx:=Ac (hI.out.2.2.2.2.ext hE10.out)
     replace hsy:=Ac (hsy.ext hE10.out)
     have hBr2:Hid (B<wr.heap.size):=hI.out.1.lt
     clear hcy hgy hI
     generalize ht0:AZ Q l=t at *
     clear ht0
     go_upto_region 8 with (fail)
     clear y0 y1 y2 y3 y4 y5 y6 y7 y8 y9 y10 y11
     generalize (wr.alloc (.cells #[.bool bz,.slice Ay ny cy,.bool bz',.slice Ay' ny' cy',.int .i64 (t.m 0),.int .i64 (t.m 1),.int .i64 (t.m 2),.int .i64 (t.m 3),.int .i64 (t.m 4),.int .i64 (t.m 5),.int .i64 (t.m 6),.int .i64 (t.m 7)] 81))=w10 at *
     obtain ⟨B10,hB10⟩:∃B10,B10=wr.heap.size:=⟨_,rfl⟩
     rw [<-hB10] at hb10 hBr2 ⊢
     replace hB10:=Ac hB10
     clear hE10
     have x4:w10.cell? ⟨B8,4,none⟩=some (.int .i64 (s.m 0)):=hb8.out.cell 4
     have x5:w10.cell? ⟨B8,5,none⟩=some (.int .i64 (s.m 1)):=hb8.out.cell 5
     have x6:w10.cell? ⟨B8,6,none⟩=some (.int .i64 (s.m 2)):=hb8.out.cell 6
     have x7:w10.cell? ⟨B8,7,none⟩=some (.int .i64 (s.m 3)):=hb8.out.cell 7
     have x8:w10.cell? ⟨B8,8,none⟩=some (.int .i64 (s.m 4)):=hb8.out.cell 8
     have x9:w10.cell? ⟨B8,9,none⟩=some (.int .i64 (s.m 5)):=hb8.out.cell 9
     have x10:w10.cell? ⟨B8,10,none⟩=some (.int .i64 (s.m 6)):=hb8.out.cell 10
     have x11:w10.cell? ⟨B8,11,none⟩=some (.int .i64 (s.m 7)):=hb8.out.cell 11
     have y4:w10.cell? ⟨B10,4,none⟩=some (.int .i64 (t.m 0)):=hb10.out.cell 4
     have y5:w10.cell? ⟨B10,5,none⟩=some (.int .i64 (t.m 1)):=hb10.out.cell 5
     have y6:w10.cell? ⟨B10,6,none⟩=some (.int .i64 (t.m 2)):=hb10.out.cell 6
     have y7:w10.cell? ⟨B10,7,none⟩=some (.int .i64 (t.m 3)):=hb10.out.cell 7
     have y8:w10.cell? ⟨B10,8,none⟩=some (.int .i64 (t.m 4)):=hb10.out.cell 8
     have y9:w10.cell? ⟨B10,9,none⟩=some (.int .i64 (t.m 5)):=hb10.out.cell 9
     have y10:w10.cell? ⟨B10,10,none⟩=some (.int .i64 (t.m 6)):=hb10.out.cell 10
     have y11:w10.cell? ⟨B10,11,none⟩=some (.int .i64 (t.m 7)):=hb10.out.cell 11
     go_wp2_with fail
     refine (NR s.m t.m _ hst.out.1 hst.out.2.1 hst.out.2.2.1).mono ?_
     rintro e w11 ⟨rfl,hE11⟩
     clear x4 x5 x6 x7 x8 x9 x10 x11
     clear y4 y5 y6 y7 y8 y9 y10 y11
     have hb11:Hid (Blk (w11.alloc (.cells #[.int .i64 (Ba s.m t.m 0),.int .i64 (Ba s.m t.m 1),.int .i64 (Ba s.m t.m 2),.int .i64 (Ba s.m t.m 3),.int .i64 (Ba s.m t.m 4),.int .i64 (Ba s.m t.m 5),.int .i64 (Ba s.m t.m 6),.int .i64 (Ba s.m t.m 7)] 60)) w11.heap.size 60 (c8 (Ba s.m t.m))):=Blk.new _ _ _
     have hE12:Hid (Ext w10 (w11.alloc (.cells #[.int .i64 (Ba s.m t.m 0),.int .i64 (Ba s.m t.m 1),.int .i64 (Ba s.m t.m 2),.int .i64 (Ba s.m t.m 3),.int .i64 (Ba s.m t.m 4),.int .i64 (Ba s.m t.m 5),.int .i64 (Ba s.m t.m 6),.int .i64 (Ba s.m t.m 7)] 60))):=hE11.alloc _
     replace hb8:=Ac (hb8.out.ext hE12.out)
     replace hb10:=Ac (hb10.out.ext hE12.out)
     replace hI10:Hid (MapAt (w11.alloc (.cells #[.int .i64 (Ba s.m t.m 0),.int .i64 (Ba s.m t.m 1),.int .i64 (Ba s.m t.m 2),.int .i64 (Ba s.m t.m 3),.int .i64 (Ba s.m t.m 4),.int .i64 (Ba s.m t.m 5),.int .i64 (Ba s.m t.m 6),.int .i64 (Ba s.m t.m 7)] 60)) B E/\Ext w (w11.alloc (.cells #[.int .i64 (Ba s.m t.m 0),.int .i64 (Ba s.m t.m 1),.int .i64 (Ba s.m t.m 2),.int .i64 (Ba s.m t.m 3),.int .i64 (Ba s.m t.m 4),.int .i64 (Ba s.m t.m 5),.int .i64 (Ba s.m t.m 6),.int .i64 (Ba s.m t.m 7)] 60))):=⟨hI10.out.1.ext hE12.out,hI10.out.2.trans hE12.out⟩
     replace hsx:=Ac (hsx.out.ext hE12.out)
     replace hsy:=Ac (hsy.out.ext hE12.out)
     clear hE11 hE12
     go_upto_region 11 with (fail)
     generalize (w11.alloc (.cells #[.int .i64 (Ba s.m t.m 0),.int .i64 (Ba s.m t.m 1),.int .i64 (Ba s.m t.m 2),.int .i64 (Ba s.m t.m 3),.int .i64 (Ba s.m t.m 4),.int .i64 (Ba s.m t.m 5),.int .i64 (Ba s.m t.m 6),.int .i64 (Ba s.m t.m 7)] 60))=wr2 at *
     generalize w11.heap.size=B11 at *
     have hEr:Hid (Ext wr2 wr2):=Ext.refl wr2
     refine wp_region_v (by kernel_rfl) [[], [], [(38, 1)], [], [(40, 3)], [(39, 2), (41, 4)], []] [[], [], [1], [], [3], [1, 2, 3, 4], []]
      [λv _=>v = .map (some B),λv _=>v = .pointer (some ⟨B8,0,none⟩),λv _=>v = .agg #[.bool bx,.slice Ax nx cx,.bool bx',.slice Ax' nx' cx'],λv _=>v = .pointer (some ⟨B10,0,none⟩),λv _=>v = .agg #[.bool bz,.slice Ay ny cy,.bool bz',.slice Ay' ny' cy'],λv w'=>RatV w' v (s.c*t.c),λv _=>v = .agg #[.int .i64 (Ba s.m t.m 0),.int .i64 (Ba s.m t.m 1),.int .i64 (Ba s.m t.m 2),.int .i64 (Ba s.m t.m 3),.int .i64 (Ba s.m t.m 4),.int .i64 (Ba s.m t.m 5),.int .i64 (Ba s.m t.m 6),.int .i64 (Ba s.m t.m 7)]]
      rfl (by kernel_rfl) (by kernel_rfl) ?stab ?steps ?fin
     case stab=>exact .cons (Stab.eq _) (.cons (Stab.eq _) (.cons (Stab.eq _) (.cons (Stab.eq _) (.cons (Stab.eq _) (.cons (λ_ _ _ he h=>h.ext he) (.cons (Stab.eq _) .nil))))))
     case steps=>
      refine .cons ?s0 (.cons ?s1 (.cons ?s2 (.cons ?s3 (.cons ?s4 (.cons ?s5 (.cons ?s6 .nil))))))
      case s0=>
       intro w' ev hE hk ha hc hf
       have e6:ev (.tmp 6) = .map (some B):=ha 6 (by decide)
       exact Ag (by simp [execOp,e6,go_sem]) rfl
      case s1=>
       intro w' ev hE hk ha hc hf
       have e8:ev (.tmp 8) = .pointer (some ⟨B8,0,none⟩):=ha 8 (by decide)
       exact Ag (by simp [execOp,e8,go_sem]) rfl
      case s2=>
       intro w' ev hE hk ha hc hf
       have e38:ev (.tmp 38) = .pointer (some ⟨B8,0,none⟩):=hk.1 _ rfl
       have c0:w'.cell? ⟨B8,0,none⟩=some (.bool bx):=hE.cellv (hb8.out.cell 0)
       have c1:w'.cell? ⟨B8,1,none⟩=some (.slice Ax nx cx):=hE.cellv (hb8.out.cell 1)
       have c2:w'.cell? ⟨B8,2,none⟩=some (.bool bx'):=hE.cellv (hb8.out.cell 2)
       have c3:w'.cell? ⟨B8,3,none⟩=some (.slice Ax' nx' cx'):=hE.cellv (hb8.out.cell 3)
       exact Ag (by simp [execOp,e38,c0,c1,c2,c3,go_sem]) rfl
      case s3=>
       intro w' ev hE hk ha hc hf
       have e10:ev (.tmp 10) = .pointer (some ⟨B10,0,none⟩):=ha 10 (by decide)
       exact Ag (by simp [execOp,e10,go_sem]) rfl
      case s4=>
       intro w' ev hE hk ha hc hf
       have e40:ev (.tmp 40) = .pointer (some ⟨B10,0,none⟩):=hk.1 _ rfl
       have c0:w'.cell? ⟨B10,0,none⟩=some (.bool bz):=hE.cellv (hb10.out.cell 0)
       have c1:w'.cell? ⟨B10,1,none⟩=some (.slice Ay ny cy):=hE.cellv (hb10.out.cell 1)
       have c2:w'.cell? ⟨B10,2,none⟩=some (.bool bz'):=hE.cellv (hb10.out.cell 2)
       have c3:w'.cell? ⟨B10,3,none⟩=some (.slice Ay' ny' cy'):=hE.cellv (hb10.out.cell 3)
       exact Ag (by simp [execOp,e40,c0,c1,c2,c3,go_sem]) rfl
      case s5=>
       intro w' ev hE hk ha hc hf
       have e39:ev (.tmp 39) = .agg #[.bool bx,.slice Ax nx cx,.bool bx',.slice Ax' nx' cx']:=hk.1 _ rfl
       have e41:ev (.tmp 41) = .agg #[.bool bz,.slice Ay ny cy,.bool bz',.slice Ay' ny' cy']:=hk.2.1 _ rfl
       refine Aw (by simp [execOp,resolve,invoke,hf,e39,e41,go_sem]) (PW bx bx' Ax Ax' nx cx nx' cx' bz bz' Ay Ay' ny cy ny' cy' s.c t.c N M _ (hsx.out.ext (hEr.out.trans ((Ext.refl _).drew.trans hE))) (hsy.out.ext (hEr.out.trans ((Ext.refl _).drew.trans hE))) hsN.out htM.out (by omega)) ?_
       rintro e w1 ⟨b1,b2,A1,A2,n1,d1,n2,d2,rfl,hI1,hE1⟩
       exact ⟨_,rfl,hE1,b1,b2,A1,A2,n1,d1,n2,d2,rfl,hI1⟩
      case s6=>
       intro w' ev hE hk ha hc hf
       have e11:ev (.tmp 11) = .pointer (some ⟨B11,0,none⟩):=ha 11 (by decide)
       have c0:w'.cell? ⟨B11,0,none⟩=some (.int .i64 (Ba s.m t.m 0)):=hE.cellv (hb11.out.cell 0)
       have c1:w'.cell? ⟨B11,1,none⟩=some (.int .i64 (Ba s.m t.m 1)):=hE.cellv (hb11.out.cell 1)
       have c2:w'.cell? ⟨B11,2,none⟩=some (.int .i64 (Ba s.m t.m 2)):=hE.cellv (hb11.out.cell 2)
       have c3:w'.cell? ⟨B11,3,none⟩=some (.int .i64 (Ba s.m t.m 3)):=hE.cellv (hb11.out.cell 3)
       have c4:w'.cell? ⟨B11,4,none⟩=some (.int .i64 (Ba s.m t.m 4)):=hE.cellv (hb11.out.cell 4)
       have c5:w'.cell? ⟨B11,5,none⟩=some (.int .i64 (Ba s.m t.m 5)):=hE.cellv (hb11.out.cell 5)
       have c6:w'.cell? ⟨B11,6,none⟩=some (.int .i64 (Ba s.m t.m 6)):=hE.cellv (hb11.out.cell 6)
       have c7:w'.cell? ⟨B11,7,none⟩=some (.int .i64 (Ba s.m t.m 7)):=hE.cellv (hb11.out.cell 7)
       exact Ag (by simp [execOp,e11,c0,c1,c2,c3,c4,c5,c6,c7,go_sem]) rfl
     case fin=>
      intro gf w' hE hF
      obtain ⟨b3,b3',A3,A3',n3,c3,n3',c3',e5,hI5⟩:=hF 5 _ rfl
      have e0:=hF 0 _ rfl
      have e6:=hF 6 _ rfl
      simp only [List.length_cons,List.length_nil,Nat.reduceAdd,List.drop_succ_cons,List.drop_zero,List.take_succ_cons,List.take_zero,CM,Act.put,List.setIfInBounds_toArray,List.set_cons_succ,List.set_cons_zero,e0,e5,e6]
      replace hE:=(Ext.refl wr2).drew.trans hE
      have hM5:=Ac (hI10.out.1.ext hE)
      have hE5:=Ac (hI10.out.2.trans hE)
      have hb8':=Ac (hb8.out.ext hE)
      have hsx':=Ac (hsx.out.ext hE)
      replace hI5:=Ac hI5
      have hszc:=Ac (hsN.out.mul htM.out)
      clear hF e0 e5 e6 hE hb8 hb10 hb11 hsx hsy hI10 hEr
      generalize gf 1=g1 at *
      generalize gf 2=g2 at *
      generalize gf 3=g3 at *
      generalize gf 4=g4 at *
      have hEl:Hid (PSz E ((k*nq+l)*D)):=hC.out.sz
      have hbd:Hid ((k*nq+l)*D+(N+M)+1<=4398046511104):=by
       show _<=_
       have h1:k*nq+l+1<=np*nq:=by
        have h2:(k+1)*nq<=np*nq:=Nat.mul_le_mul_right nq hlt
        rw [Nat.succ_mul] at h2
        omega
       have h3:(k*nq+l+1)*D<=100000*10000000:=Nat.mul_le_mul (by have:=hn.out;omega) (by rw [hD.out];exact hNM)
       rw [Nat.succ_mul] at h3
       have:=hD.out
       omega
      go_wp2_with fail
      refine (Rj b3 b3' A3 A3' n3 c3 n3' c3' (s.c*t.c) (Ba s.m t.m) B E ((k*nq+l)*D) (N+M) _ hM5.out hI5.out hEl.out hszc.out hbd.out).mono ?_
      rintro e w6 ⟨rfl,hg6,E',hcl,hM6⟩
      have hE6:=Ac (hE5.out.grown' hg6 λk e=>by cases e;rw [hB.out];exact Nat.le_refl _)
      have hnB:∀b,some B=some b->¬Ty w' b 108:=λb e=>by cases e;exact hM5.out.notU _
      have hb6:Hid (Blk w6 B8 81 #[.bool bx,.slice Ax nx cx,.bool bx',.slice Ax' nx' cx',.int .i64 (s.m 0),.int .i64 (s.m 1),.int .i64 (s.m 2),.int .i64 (s.m 3),.int .i64 (s.m 4),.int .i64 (s.m 5),.int .i64 (s.m 6),.int .i64 (s.m 7)]):=(hg6.block B8 (Blk.lt hb8'.out) λe=>hne8 (by injection e with e;exact e.symm)).trans hb8'.out
      have hs6:=Ac (hsx'.out.kept hg6 hnB)
      have hC6:Hid (Colld E' (Hk (P.take k) Q++LQ s (Q.take (l+1))) (k*nq+(l+1)) D (p+q)):=by
       have:=hC.out.step hcl hszc.out (by rw [hD.out];exact Nat.le_refl _) hst.out.2.2.2
       rw [hrl.out,<-List.append_assoc]
       exact this
      replace hM6:=Ac hM6
      clear hg6 hcl hnB
      go_wp2
      exact ⟨⟨l+1,E',hlq,by simp,hM6.out,hC6.out,hE6.out,hb6.out,hs6.out⟩,by simp [intOf];omega⟩
    .obtain rfl:l=nq:=by omega
     have hdl:decide (l<l)=false:=by simp
     have hfin:Hid (Colld E (Hk (P.take (k+1)) Q) ((k+1)*l) D (p+q)):=by
      have:=hI.out.2.1
      rw [hnq.out,List.take_length,<-hnq.out] at this
      rw [htk.out,Nat.succ_mul]
      exact this
     go_wp2
     exact ⟨⟨k+1,E,hlt,by simp,hI.out.1,hfin.out,hI.out.2.2.1⟩,by simp [intOf];omega⟩
  .obtain rfl:k=np:=by omega
   have hdk:decide (k<k)=false:=by simp
   have hC:=hI.out.2.1
   rw [hnp.out,List.take_length,<-hnp.out] at hC
   have hll:E.length<=100000:=Nat.le_trans hC.len hn.out
   replace hC:=Ac hC
   go_wp2_with fail
   refine (Ss B E _ hI.out.1 hll).mono ?_
   rintro e w5 ⟨S,⟨hS1,hS2,hS3⟩,A5,c5,rfl,hS4,hE5⟩
   have hE6:=Ac (hI.out.2.2.trans hE5)
   have hall:Hid (Canon S/\Sim S (Hk P Q)/\PIn S 0 (p+q)/\PSz S (k*nq*D)):=⟨hS1,hS2.trans hC.out.sim,λt ht=>hC.out.in_ t (hS3 t ht),λt ht=>hC.out.sz t (hS3 t ht)⟩
   have hSl:Hid (S.length<=k*nq):=Nat.le_trans (Wz hS1 hS3 ) hC.out.len
   replace hS4:=Ac (hS4.base_mono hI.out.2.2.size)
   clear hE5 hS1 hS2 hS3
   go_wp2
   go_ret2
   exact ⟨S,hall.out.1,hall.out.2.1,hall.out.2.2.1,hall.out.2.2.2,hSl.out,A5,c5,rfl,hS4.out,hE6.out⟩
end Go.Proofs.YtnbfnoebjjdmnaaGreat
