/- Part 23 of the proof of hilbertMatchesReference_holds. No condition. -/
import Derived.Maps.AppendAt
import Derived.RangeFuncFrom
import Derived.Shelf.Abstract
import Derived.Test.YtialdhnijjnpaaaGreatQg22
set_option linter.unusedSimpArgs false
set_option linter.unusedVariables false
set_option maxRecDepth 100000
set_option maxHeartbeats 3200000
namespace Go.Proofs.YtialdhnijjnpaaaGreat
open Go.RowKit
theorem Ig{F:Fence}{n:Nat}{P:Program}{α:Type}{g:Operand}{ps:Array Tmp}{assign body:Code}{Q:Exit->Act->World->Prop}{a:Act}{w:World}
  (hro:F.round=none) (h1:1<=n) {gf:Nat} {lb:Array Value} (hg:a.eval g = .func (.func gf) #[] lb) (hFg:F.fn gf) (eg:∀args w,(callFunc gf args).run P w = .ok (.enter gf args) w)
  {enc:α->Value} {S:List α->Prop} {N:Nat} {w0:World} (hseq:SeqGives F (n-1) P gf lb enc S N w0) (hb0:Below w0.heap.size w0 w) (hps:ps.size=1)
  (I:List α->World->Prop) (hI:OwnFrom w.heap.size I) (h0:I [] w)
  (hround:∀(l:Nat) (pre:List α) (x:α) (W:World),w.heap.size<=l->I pre W->pre.length<N ->
   assign.wpIn (F.inRound l) (n-1-1) P (Exit.then (λa₁ W₁=>KeepsOthers W W₁/\∀W₂,W₁.grownBy W₂ (some l)->(∃o:Obj,W₁.heap[l]? = some o/\o.isCells=false) ->
    body.wpIn (F.inRound l) (n-1-1) P (λe _ W₃=>e = .normal/\KeepsOthers W₂ W₃/\I (pre++[x]) W₃) a₁ W₂) (λ_ _ _=>False))
    { tmps:=(ps.zip #[enc x]).foldl (λt (p,v)=>t.setIfInBounds p v) a.tmps,defers:=[] } W)
  (hdone:∀(Dn:Nat) (xs:List α) (W:World),w.heap.size<=Dn->S xs->I xs W->W.heap[Dn]? = some (.deferred (some []))->Q .normal { a with defers:={ target:=.collected Dn,args:=#[] }::a.defers } W) :
  (Code.rangeFunc g ps assign body).wpIn F n P Q a w:=by
 refine wpIn_rangeFunc ?_
 intro fn hfn
 rw [hro]
 obtain ⟨rec,hrec⟩:∃rec:LoopState->Option Code->Loop,rec=λst pe=>{ state:=st,pending:=pe,fn,tmps:=a.tmps,params:=ps,assign,body,defers:=w.heap.size }:=⟨_,rfl⟩
 obtain ⟨W1,hW1⟩:∃W1,(w.alloc (.deferred (some []))).alloc (.loop (rec .ready none))=W1:=⟨_,rfl⟩
 have hL1:W1.heap[w.heap.size+1]? = some (.loop (rec .ready none)):=by
  rw [<-hW1];have:=World.alloc_heap_new (w.alloc (.deferred (some []))) (.loop (rec .ready none));rwa [World.size_alloc] at this
 have hK1:W1.heap[w.heap.size]? = some (.deferred (some [])):=by
  rw [<-hW1];exact (Below.heap_alloc _ _ _ (by simp)).trans (World.alloc_heap_new w _)
 have hI1:I [] W1:=by rw [<-hW1];exact hI.alloc _ (hI.alloc _ h0)
 have hb1:Below w0.heap.size w0 W1:=by
  rw [<-hW1];exact hb0.trans ((((Below.refl _ w).alloc (Nat.le_refl _) _).alloc (by simp) _).mono hb0.size)
 refine ⟨w.heap.size+1,[{ target:=.collected w.heap.size,args:=#[] }],W1,{ target:=.fn (.func gf) lb,args:=#[.func (.yield (w.heap.size+1)) #[] #[]] },W1,gf,
  #[.func (.yield (w.heap.size+1)) #[] #[]]++lb,W1,?_,?_,?_,?_,λ_=>h1,?_⟩
 .rw [<-hW1,hrec];exact run_enterLoop_outer _ _ _ _ _
 .simp only [resolve,hg]
  simp [go_sem]
 .intro f' hf';simp [Target.leads] at hf';subst hf';exact hFg
 .simp [invoke,go_sem,eg]
 .have hnw:∀{A:World} {row:Option Nat},(∀r,row=some r->W1.heap.size<=r/\∃o:Obj,A.heap[r]? = some o/\o.isWalk=true)->(∀r,row=some r->w.heap.size<=r/\∃o:Obj,A.heap[r]? = some o/\o.isCells=false):=
   λhr r e=>by obtain ⟨hB,o,ho,hw⟩:=hr r e;exact ⟨by rw [<-hW1] at hB;simp at hB;omega,o,ho,Obj.not_cells_of_walk hw⟩
  refine (hseq (w.heap.size+1)
   (λpre W=>I pre W/\W.heap[w.heap.size+1]? = some (.loop (rec .ready none))/\W.heap[w.heap.size]? = some (.deferred (some [])))
   W1 hb1
   (λs A B row hs hg' hr=>⟨hI s A B row hs.1 hg' (hnw hr),(grownBy_keeps hg' (λr e=>(hr r e).2) hs.2.1 rfl).trans hs.2.1,(grownBy_keeps hg' (λr e=>(hr r e).2) hs.2.2 rfl).trans hs.2.2⟩)
   ?_ ⟨hI1,hL1,hK1⟩).mono ?_
  .rintro pre x W ⟨hi,hl,hk⟩ hlen
   have hy:=run_yield (P:=P) (args:=#[enc x]) hl (by rw [hrec];exact hps.symm)
   rw [hrec] at hy
   refine ⟨fn,_,assign,body,hy,roundIn_of_wpIn hfn (wpIn_mono (hround _ pre x W (by omega) hi hlen) ?_)⟩
   rintro e a1 W2 hp
   cases e with
   | normal=>
    obtain ⟨hko,hbd⟩:=hp
    have hl1:=hko.same _ _ hl rfl
    have hk1:=hko.same _ _ hk rfl
    have hlt:w.heap.size+1<W2.heap.size:=(Array.getElem?_eq_some_iff.1 hl1).1
    have hl2:(W2.putObj (w.heap.size+1) (.loop { rec .ready none with state:=.busy })).heap[w.heap.size+1]? = some (.loop { rec .ready none with state:=.busy }):=World.putObj_heap_same hlt
    have hk2:(W2.putObj (w.heap.size+1) (.loop { rec .ready none with state:=.busy })).heap[w.heap.size]? = some (.deferred (some [])):=(World.putObj_heap_other (by omega)).trans hk1
    refine ⟨_,run_beginRound hl1 (by rw [hrec]),wpIn_mono (hbd _ (grownBy_putObj' W2 (w.heap.size+1) _) ⟨_,hl1,rfl⟩) ?_⟩
    rintro e a3 W3 ⟨rfl,hk3,hi3⟩
    have hl3:=hk3.same _ _ hl2 rfl
    have hr:=run_endRound (P:=P) none hl3
    rw [hrec] at hr
    refine ⟨_,_,hr,rfl,⟨hI.putObj _ hi3 (by omega) hl3 rfl,?_,(World.putObj_heap_other (by omega)).trans (hk3.same _ _ hk2 rfl)⟩,?_⟩
    .have:=World.putObj_heap_same (o:=.loop (rec .ready none)) (Array.getElem?_eq_some_iff.1 hl3).1
     rw [hrec] at this ⊢
     exact this
    .exact ((hko.walks.trans (KeepsWalks.putObj _ hl1 rfl)).trans hk3.walks).trans (KeepsWalks.putObj _ hl3 rfl)
   | ret=>exact hp.elim
   | exit id=>exact hp.elim
   | goto t=>exact hp.elim
   | panic ch=>exact hp.elim
   | outgrown=>exact hp.elim
  .rintro e W2 ⟨⟨v,rfl⟩,xs,hS,hi,hl,hk⟩
   exact ⟨none,_,by have:=run_endLoop (P:=P) hl (by rw [hrec];simp);rw [hrec] at this;exact this,hdone _ xs _ (Nat.le_refl _) hS (hI.putObj _ hi (by omega) hl rfl) ((World.putObj_heap_other (by omega)).trans hk)⟩
def Gi(ss:List (Nat->Int)):List Value:=(ss.map λa=>(c8 a).toList).flatten
theorem Tc(ss:List (Nat->Int))(a:Nat->Int):Gi (ss++[a])=Gi ss++(c8 a).toList:=by simp [Gi]
theorem FQ{W:World}{base:Nat}{e:TypeId}{size:Nat}{v:Value}{k:Nat}{xs:List Value}(h:W.ownsRow base e size v k xs){j:Nat}{o:Obj}(hj:W.heap[j]? = some o)(hno:∀cur,o ≠ .cells cur e (0,0)) :
  v.ownBlock=none\/v.ownBlock≠some j:=by
 rcases h.2 with ⟨rfl,_⟩ | ⟨g,cap,cur,rfl,_,hgb,_⟩
 .exact .inl rfl
 .refine .inr λe'=>?_
  have:g=j:=by simpa [Value.ownBlock] using e'
  subst this;rw [hgb] at hj;cases hj;exact hno cur rfl
def ApI(w:World)(Bs:Nat)(pre:List (Nat->Int))(W:World):Prop:=
 (∃v,W.heap[Bs]? = some (.cells #[v] 28 (0,0))/\W.ownsRow w.heap.size 55 8 v pre.length (Gi pre))/\Below w.heap.size w W
theorem A0N{w:World}{Bs B:Nat}(h1:w.heap.size<=B):OwnFrom B (ApI w Bs):=λs W W' row ⟨⟨v,hv,hr⟩,hb⟩ hg hrow=>by
 refine ⟨⟨v,(hg.block Bs (AG hv) λe=>?_).trans hv,hr.kept hg ?_⟩,hb.grown hg hb.size (λk e=>Nat.le_trans h1 (hrow k e).1)⟩
 .obtain ⟨_,o,ho,hc⟩:=hrow Bs e.symm
  rw [hv] at ho
  cases ho
  cases hc
 .rcases hr.2 with ⟨rfl,_⟩ | ⟨g,cap,cur,rfl,_,hgb,_⟩
  .exact .inl rfl
  .refine .inr λe'=>?_
   have e':row=some g:=by simpa [Value.ownBlock] using e'.symm
   obtain ⟨_,o,ho,hc⟩:=hrow g e'
   rw [hgb] at ho
   cases ho
   cases hc
theorem MQ (n : Nat) (hn:2≤n) (g:Nat) (lb:Array Value) (eg:∀ args w,(callFunc g args).run Tryz.prog w = .ok (.enter g args) w)
    (S:List (Nat->Int)->Prop) (N:Nat) (hN:N<=1000000000) (w:World) (hseq:SeqGives Fence.wide (n-1) Tryz.prog g lb MO S N w) :
    CallsIn Fence.wide n Tryz.prog 147 #[.slice none 0 0,.func (.func g) #[] lb] w λe w'=>∃(v:Value) (ss:List (Nat->Int)),e = .returned v/\S ss/\w'.ownsRow w.heap.size 55 8 v ss.length (Gi ss)/\Below w.heap.size w w':=by
  have h1:1<=n:=by omega
  refine callsIn_of_wp_marks Tryz.func147 rfl trivial ?_
  simp only [Tryz.ntmps147,List.size_toArray,List.length_cons,List.length_nil,Nat.reduceAdd,Nat.reduceSub,Array.replicate_succ,Array.replicate_zero,List.push_toArray,List.append_toArray,List.nil_append,List.cons_append]
  gi_wp2
  refine Ig rfl h1 rfl trivial eg hseq (((Below.refl _ w).alloc (Nat.le_refl _) _).mono (Nat.le_refl _)) rfl (ApI w w.heap.size) (A0N (by simp)) ?h0 ?round ?done
  case h0=>exact ⟨⟨_,heap_alloc_new w _,rfl,.inl ⟨rfl,rfl⟩⟩,(Below.refl _ w).alloc (Nat.le_refl _) _⟩
  case round=>
    intro l pre x W hl hI hlen
    have ht:(Array.foldl (λ(t:Array Value) (x:Tmp×Value)=>t.setIfInBounds x.1 x.2) #[.slice none 0 0,.func (.func g) #[] lb,.pointer (some ⟨w.heap.size,0,none⟩),undef,.slice none 0 0,undef,.func (.func g) #[] lb,undef,undef,undef,undef,undef,undef] (Array.zip #[7] #[MO x]))=#[.slice none 0 0,.func (.func g) #[] lb,.pointer (some ⟨w.heap.size,0,none⟩),undef,.slice none 0 0,undef,.func (.func g) #[] lb,.agg #[.int .i64 (x 0),.int .i64 (x 1),.int .i64 (x 2),.int .i64 (x 3),.int .i64 (x 4),.int .i64 (x 5),.int .i64 (x 6),.int .i64 (x 7)],undef,undef,undef,undef,undef]:=by simp [MO,c8]
    rw [ht]
    clear ht
    gi_wp2_with (rw [Oper.semAt_eq _ _ _ (λc h=>by cases h)];go_simp;try go_bits)
    obtain ⟨⟨v,hv,hrow⟩,hb⟩:=hI
    refine ⟨KeepsOthers.alloc W _,λW2 hg2 ⟨o,ho,hoc⟩=>?_⟩
    have hBl:w.heap.size≠l:=by simp at hl;omega
    have hxl:W.heap.size≠l:=λe=>by
      subst e
      rw [heap_alloc_new] at ho
      cases ho
      cases hoc
    have hv2:W2.heap[w.heap.size]? = some (.cells #[v] 28 (0,0)):=(hg2.block _ (by have:=AG hv;simp;omega) (λe=>hBl (by cases e;rfl))).trans ((Below.heap_alloc W _ _ (AG hv)).trans hv)
    have hx2:W2.heap[W.heap.size]? = some (.cells #[.int .i64 (x 0),.int .i64 (x 1),.int .i64 (x 2),.int .i64 (x 3),.int .i64 (x 4),.int .i64 (x 5),.int .i64 (x 6),.int .i64 (x 7)] 55 (0,0)):=(hg2.block _ (by simp) (λe=>hxl (by cases e;rfl))).trans (heap_alloc_new W _)
    have hrow2:W2.ownsRow w.heap.size 55 8 v pre.length (Gi pre):=(hrow.alloc _).kept hg2 (FQ (hrow.alloc _) ho (λcur e=>by subst e;cases hoc))
    have hb2:Below w.heap.size w W2:=(hb.alloc hb.size _).grown hg2 (by have:=hb.size;simp;omega) (λk e=>by cases e;simp at hl;omega)
    have hBs:=hb2.size
    have hc2:W2.cell? ⟨w.heap.size,0,none⟩=some v:=by simp [World.cell?,hv2]
    have hf2:W2.frozen? ⟨w.heap.size,0,none⟩=false:=by simp [World.frozen?,hv2]
    have y0:W2.cell? ⟨W.heap.size,0,none⟩=some (.int .i64 (x 0)):=(AU hx2).trans rfl
    have y1:W2.cell? ⟨W.heap.size,1,none⟩=some (.int .i64 (x 1)):=(AU hx2).trans rfl
    have y2:W2.cell? ⟨W.heap.size,2,none⟩=some (.int .i64 (x 2)):=(AU hx2).trans rfl
    have y3:W2.cell? ⟨W.heap.size,3,none⟩=some (.int .i64 (x 3)):=(AU hx2).trans rfl
    have y4:W2.cell? ⟨W.heap.size,4,none⟩=some (.int .i64 (x 4)):=(AU hx2).trans rfl
    have y5:W2.cell? ⟨W.heap.size,5,none⟩=some (.int .i64 (x 5)):=(AU hx2).trans rfl
    have y6:W2.cell? ⟨W.heap.size,6,none⟩=some (.int .i64 (x 6)):=(AU hx2).trans rfl
    have y7:W2.cell? ⟨W.heap.size,7,none⟩=some (.int .i64 (x 7)):=(AU hx2).trans rfl
    obtain ⟨i0,hi,hz0,hz1,hz2⟩:=info_parts (show (Tryz.prog.info? 55).map (λi=>(i.zero,i.size,i.bytes))=some (some (.agg #[.int .i64 0,.int .i64 0,.int .i64 0,.int .i64 0,.int .i64 0,.int .i64 0,.int .i64 0,.int .i64 0]),8,64) by kernel_rfl)
    replace hrow2:=Ae hrow2
    replace hb2:=Ae hb2
    replace hi:=Ae hi
    replace hz0:=Ae hz0
    replace hz1:=Ae hz1
    replace hz2:=Ae hz2
    replace hv2:=Ae hv2
    replace hx2:=Ae hx2
    clear ho hoc hg2 hv hrow hb
    have hnew:∀(j:Nat) (u:Value),(c8 x).toList[j]? = some u->(W2.alloc (.cells #[.int .i64 (x 0),.int .i64 (x 1),.int .i64 (x 2),.int .i64 (x 3),.int .i64 (x 4),.int .i64 (x 5),.int .i64 (x 6),.int .i64 (x 7)] 55)).cell? ((⟨W2.heap.size,0,none⟩:Addr).add j)=some u:=λj u hu=>by
      rw [Addr.add_lit]
      refine (AU (heap_alloc_new W2 _)).trans ?_
      rw [Nat.zero_add]
      simpa [c8] using hu
    have hone:∀u∈(c8 x).toList,u.oneCell'=true:=λu hu=>by
      simp [c8] at hu
      rcases hu with rfl | rfl | rfl | rfl | rfl | rfl | rfl | rfl<;>rfl
    replace hnew:=Ae hnew
    replace hone:=Ae hone
    replace hBs:=Ae hBs
    replace hl:=Ae hl
    gi_wp2_with (first
      | (gi_at_builtin; refine wpListIn_append_own _ rfl _ _ 28 rfl w.heap.size 55 i0 _ 8 64 Tryz.underlying28 hi.out hz0.out hz1.out hz2.out rfl (by decide) v pre.length (Gi pre) rfl (hrow2.out.alloc _) ⟨W2.heap.size, 0, none⟩ 1 1 (c8 x).toList rfl rfl hnew.out hone.out (by simp only [maxLen]; omega) (by omega) (by have := hBs.out; simp; omega) ?_; intro v' w3 hown' hg3 hnil3
         have hv3 : w3.heap[w.heap.size]? = some (.cells #[v] 28 (0, 0)) := (hg3.block _ (by have := AG hv2.out; simp; omega) (fun e => by
           rcases FQ hrow2.out hv2.out (λcur e=>by cases e) with h | h
           . rw [h] at e;cases e
           . exact h e.symm)).trans ((Below.heap_alloc _ _ _ (AG hv2.out)).trans hv2.out)
         have hc3:w3.cell? ⟨w.heap.size,0,none⟩=some v:=by simp [World.cell?,hv3]
         have hf3:w3.frozen? ⟨w.heap.size,0,none⟩=false:=by simp [World.frozen?,hv3]
         obtain ⟨g',cap',cur',rfl,hbase',hgb',hr1,hr2,hr3,hr4⟩:∃g' cap' cur',v' = .slice (some ⟨g',0,none⟩) (pre.length+1) cap'/\w.heap.size<=g'/\w3.heap[g']? = some (.cells cur' 55 (0,0))/\pre.length+1<=cap'/\cap'<=maxLen/\cur'.size=cap'*8/\cur'.toList.take ((pre.length+1)*8)=Gi pre++(c8 x).toList:=by
           rcases hown'.2 with ⟨_,h0⟩ | h'
           . exact absurd h0 (by omega)
           . exact h'
         clear hbase' hgb' hr1 hr2 hr3 hr4
         replace hown':=Ae hown'
         replace hg3:=Ae hg3
         replace hv3:=Ae hv3
         clear hnil3
         go_frame)
      | (rw [Oper.semAt_eq _ _ _ (λc h=>by cases h)];go_simp;try go_bits))
    have hg4:w3.grownBy (w3.setCell ⟨w.heap.size,0,none⟩ (.slice (some ⟨g',0,none⟩) (pre.length+1) cap')) (some w.heap.size):=⟨rfl,rfl,rfl,(KeepsWalks.setCell w3 _ _).size,λk _ hk=>Below.heap_setCell _ _ _ k (λe=>hk (by rw [e]))⟩
    have hv4:(w3.setCell ⟨w.heap.size,0,none⟩ (.slice (some ⟨g',0,none⟩) (pre.length+1) cap')).heap[w.heap.size]? = some (.cells #[.slice (some ⟨g',0,none⟩) (pre.length+1) cap'] 28 (0,0)):=by
      obtain ⟨hlt,hk⟩:=Array.getElem?_eq_some_iff.1 hv3.out
      show (w3.heap.modify _ _)[w.heap.size]? = _
      rw [Array.getElem?_eq_getElem (by rw [Array.size_modify];exact hlt),Array.getElem_modify_self,hk]
      rfl
    have hcells:∀(j:Nat) (o:Obj),v.ownBlock=some j->(W2.alloc (.cells #[.int .i64 (x 0),.int .i64 (x 1),.int .i64 (x 2),.int .i64 (x 3),.int .i64 (x 4),.int .i64 (x 5),.int .i64 (x 6),.int .i64 (x 7)] 55)).heap[j]? = some o->o.isCells=true:=λj o hj ho=>by
      rcases (hrow2.out.alloc (.cells #[.int .i64 (x 0),.int .i64 (x 1),.int .i64 (x 2),.int .i64 (x 3),.int .i64 (x 4),.int .i64 (x 5),.int .i64 (x 6),.int .i64 (x 7)] 55)).2 with ⟨rfl,_⟩ | ⟨g,cap,cur,rfl,_,hgb,_⟩
      . simp [Value.ownBlock] at hj
      . have:g=j:=by simpa [Value.ownBlock] using hj
        subst this;rw [hgb] at ho;cases ho;rfl
    have hb3:Below w.heap.size w w3:=(hb2.out.alloc hb2.out.size _).grown hg3.out (by have:=hBs.out;simp;omega) (λk e=>(hrow2.out.lt k e).1)
    refine ⟨((KeepsOthers.alloc W2 _).trans (KeepsOthers.of_grownBy hg3.out hcells)).trans (KeepsOthers.setCell _ _ _),⟨_,hv4,?_⟩,hb3.grown hg4 hb3.size (λk e=>by cases e;exact Nat.le_refl _)⟩
    have:=hown'.out.kept hg4 (FQ hown'.out hv3.out (λcur e=>by cases e))
    rw [List.length_append,Tc]
    exact this
  case done=>
    intro Dn xs W hDn hS ⟨⟨v,hv,hrow⟩,hb⟩ hD
    have hc3:W.cell? ⟨w.heap.size,0,none⟩=some v:=by simp [World.cell?,hv]
    have hf3:W.frozen? ⟨w.heap.size,0,none⟩=false:=by simp [World.frozen?,hv]
    have hgp:=grownBy_putObj' W Dn (.deferred none)
    have hrow3:=Ae (hrow.kept hgp (FQ hrow hD (λcur e=>by cases e)))
    have hb3:=Ae (hb.grown hgp hb.size (λk e=>by cases e;simp at hDn;omega))
    replace hD:=Ae hD
    clear hgp hrow hb hv
    gi_wp2
    refine ⟨by simp,.inl ⟨_,_,rfl,run_takeDeferred hD.out,?_⟩⟩
    exact ⟨_,results_tmp rfl _ _ _,v,xs,rfl,hS,hrow3.out,hb3.out⟩
end Go.Proofs.YtialdhnijjnpaaaGreat
