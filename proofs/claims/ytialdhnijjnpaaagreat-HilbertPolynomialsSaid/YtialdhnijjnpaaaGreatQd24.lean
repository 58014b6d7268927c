/- Part 24 of the proof of hilbertPolynomials_holds. No condition. -/
import Derived.Test.YtialdhnijjnpaaaGreatQd21
import Derived.Test.YtialdhnijjnpaaaGreatQd23
set_option linter.unusedSimpArgs false
set_option linter.unusedVariables false
set_option maxRecDepth 100000
set_option maxHeartbeats 4000000
namespace Go.Proofs.YtialdhnijjnpaaaGreat
open Go.RowKit
theorem PK (n : Nat) (hn:3≤n) (g:Nat) (lb:Array Value) (eg:∀ args w,(callFunc g args).run Tryz.prog w = .ok (.enter g args) w)
  (S:List (Nat→Int)→Prop) (N:Nat) (hN:N≤1000000000) (w:World) (hseq:SeqGives Fence.wide (n - 1 - 1) Tryz.prog g lb LM S N w) :
  CallsIn Fence.wide n Tryz.prog 123 #[.func (.func g) #[] lb] w fun e w'=>∃ (v:Value) (ss:List (Nat→Int)),e = .returned v∧S ss∧w'.ownsRow w.heap.size 55 8 v ss.length (FU ss)∧Below w.heap.size w w':=by
 have h1:1≤n:=by omega
 have hf147:Fence.wide.fn 147:=trivial
 have e11:∀ args w,(callFunc 147 args).run Tryz.prog w = .ok (.enter 147 args) w:=Am Tryz.func147 (by kernel_rfl) (by kernel_rfl)
 refine callsIn_of_wp Tryz.func123 rfl trivial ?_
 simp only [Tryz.ntmps123,List.size_toArray,List.length_cons,List.length_nil,Nat.reduceAdd,Nat.reduceSub,Array.replicate_succ,Array.replicate_zero,List.push_toArray,List.append_toArray,List.nil_append,List.cons_append]
 gi_wp2_with (gi_at_call 147;refine (LN (n - 1) (by omega) g lb eg S N hN _ hseq).mono ?_;rintro e w' ⟨v,ss,rfl,hS,hrow,hb⟩)
 go_ret
 exact ⟨v,ss,rfl,hS,hrow,hb⟩
theorem Pj (n : Nat) (hn:1≤n) (Bm b clock:Nat) (es:Array MapEntry) (K:List (Nat→Int)) (w:World) (hBm:Bm<w.heap.size) (hm:w.cell? ⟨Bm,0,none⟩ = some (.map (some b))) (hb:w.heap[b]? = some (.map es clock)) (hkeys:es.toList.map (·.key) = K.map LM) (hborn:∀ x∈es.toList,x.born<clock) (hnd:(es.toList.map (·.born)).Nodup) :
  SeqGives Fence.wide n Tryz.prog 125 #[.pointer (some ⟨Bm,0,none⟩)] LM (fun ss=>ss.Perm K) K.length w:=fun l J W hW hJ hY h0 =>
 Ua n hn l Bm b clock es K J hY W hJ ((hW.cell (p:=⟨Bm,0,none⟩) hBm).trans hm) ((hW.block b (AB hb)).trans hb) hkeys hborn hnd h0
abbrev Hv (E : List KD):Af:=E.map (·.1)
theorem Wn (ss : Af) {i j:Nat} (hi:i<ss.length) (hj:j<8):(FU ss)[i*8+j]? = some (.int .i64 (Bn ss i j)):=by
 induction ss generalizing i with
 | nil=>simp at hi
 | cons a ss ih =>
  have e:FU (a :: ss) = (c8 a).toList ++ FU ss:=rfl
  have hl:(c8 a).toList.length = 8:=rfl
  cases i with
  | zero =>
   rw [e,Nat.zero_mul,Nat.zero_add,List.getElem?_append_left (by omega)]
   have:j = 0∨j = 1∨j = 2∨j = 3∨j = 4∨j = 5∨j = 6∨j = 7:=by omega
   rcases this with rfl | rfl | rfl | rfl | rfl | rfl | rfl | rfl <;> rfl
  | succ i =>
   rw [e,List.getElem?_append_right (by omega),hl,show (i+1)*8+j - 8 = i*8+j by omega]
   exact ih (by simpa using hi)
abbrev LD : TypeId:=96
theorem MB (E : List KD) (hE:E.length≤1000000):Con Tryz.prog 123 [.fn 125 [0]] [.var LD [.own 1],.obj (Dt E)] []
  (fun r hp'=>∃ ss:Af,ss.Perm (Hv E)∧((ss = []∧r = .d (BW [])∧hp' = [.var LD [.own 1],.obj (Dt E)])∨∃ g c,0<ss.length∧ss.length≤c∧c≤9223372036854775807∧r = .d (sX g ss.length c)∧hp' = [.var LD [.own 1],.obj (Dt E),.obj (BD [⟨g,55,Ep ss⟩])])):=by
 refine ⟨Am Tryz.func123 (by kernel_rfl) (by kernel_rfl),fun s ρ vs hok hhp hsep hl hv=>?_⟩
 obtain ⟨_,e1⟩:=hv 0 _ rfl
 have hvar:=hhp 0 _ rfl
 obtain ⟨Bm,cs0,hρ0,_,hB,hsz0,_,hnS0,hcell0⟩:=hvar
 obtain ⟨u0,hu0,_,_,hu1⟩:=hcell0 0 _ rfl
 obtain ⟨b,hρ1,⟨es,clock,hb,hkeys,hvals,hborn,hnd,hpw⟩⟩:=hhp 1 _ rfl
 have evs:vs.toArray = #[.func (.func 125) #[] #[.pointer (some ⟨Bm,0,none⟩)]]:=by
  match vs,hl with
  | [a],_ =>
   have e1:a = _:=e1
   rw [e1,List.map_cons,List.map_nil,hρ0]
 have hm:s.w.cell? ⟨Bm,0,none⟩ = some (.map (some b)):=by
  rw [AQ hB,hu0,hu1,hρ1]
 have hkeys':es.toList.map (·.key) = (Hv E).map LM:=by
  rw [hkeys,List.map_map]
  rfl
 have hseq:=Pj 1 (Nat.le_refl 1) Bm b clock es (Hv E) s.w (AB hB) hm hb hkeys' hborn hnd
 have hcon:=(PK 3 (Nat.le_refl 3) 125 #[.pointer (some ⟨Bm,0,none⟩)] (Am Tryz.func125 (by kernel_rfl) (by kernel_rfl)) (fun ss=>ss.Perm (Hv E)) (Hv E).length (by rw [List.length_map];omega) s.w hseq)
 rw [evs]
 refine (callsIn_wide.1 hcon).mono ?_
 rintro e w' ⟨v,ss,rfl,hperm,⟨hlen,hown⟩,hbel⟩
 have hBl:=AB hB
 have hbl:=AB hb
 by_cases h0:ss = []
 ·subst h0
  let s':GS:=s.grown w'
  have hext:Ext s.w w':=⟨hbel.os,hbel.tape,hbel.output,hbel.size,fun k hk=>hbel.block k hk⟩
  have hle:GS.Le s s':=EH hext
  have hvd:(BW []).rel s' v:=by
   rcases hown with ⟨rfl,_⟩ | ⟨g,cap,cur,rfl,h1,h2,h3,h4,h5,h6⟩
   ·exact slD.nil _ _ _
   ·exact ⟨_,cap,rfl,Nat.zero_le _,by simpa [maxLen] using h4,fun h=>absurd h (by simp)⟩
  refine ⟨v,rfl,s',ρ,.d (BW []),[.var LD [.own 1],.obj (Dt E)],⟨[],hperm,.inl ⟨rfl,rfl,rfl⟩⟩,rfl,hvd,⟨⟨hle.ext.os,hle.ext.tape,hle.ext.output,fun k hk _=>hle.ext.block hk,hle.chg,fun b k hb _=>hle.old b k hb,hle.tag,hle.ok⟩,hle.ok hok,fun i o hi=>(hhp i o hi).le hle,fun i j o o' hij hi hj b hbi hbj=>hsep i j o o' hij hi hj b (OwB.le (hhp i o hi) hle hbi) (OwB.le (hhp j o' hj) hle hbj),fun i o b hi hb=>.inl ⟨i,o,hi,OwB.le (hhp i o hi) hle hb⟩,fun _ _ _=>rfl,Nat.le_refl _⟩⟩
 ·have hpos:0<ss.length:=List.length_pos_iff.2 h0
  obtain ⟨g,cap,cur,rfl,hg0,hg,hc1,hc2,hcs,htake⟩:∃ g cap cur,v = .slice (some ⟨g,0,none⟩) ss.length cap∧s.w.heap.size≤g∧w'.heap[g]? = some (.cells cur 55 (0,0))∧ss.length≤cap∧cap≤maxLen∧cur.size = cap*8∧cur.toList.take (ss.length*8) = FU ss:=by
   rcases hown with ⟨_,h⟩ | h
   ·omega
   ·exact h
  let s':GS:=⟨fun b k=>s.S b k∨(s.w.heap.size≤b∧b<w'.heap.size∧b ≠ g),s.tag,w'⟩
  have hchg:GS.Chg s s':=⟨hbel.size,fun _ _ h=>.inl h,fun b cs T fz hb=>⟨cs,fz,(hbel.block b (AB hb)).trans hb,fun _ _=>rfl⟩⟩
  have hok':s'.Ok:=⟨fun b k hb=>hb.elim (fun h=>Nat.lt_of_lt_of_le (hok.lt b k h) hbel.size) fun h=>h.2.1,fun b k ⟨c2,fz,hb⟩=>by
   have hb:w'.heap[b]? = some (.cells c2 136 fz):=hb
   rcases Nat.lt_or_ge b s.w.heap.size with h1 | h1
   ·exact .inl (hok.safe b k ⟨c2,fz,(hbel.block b h1).symm.trans hb⟩)
   ·refine .inr ⟨h1,AB hb,fun e=>?_⟩
    subst e
    rw [hg] at hb
    exact absurd (Obj.cells.inj (Option.some.inj hb)).2.1 (by decide)⟩
  have hold:∀ b k,b<s.w.heap.size→s'.S b k→s.S b k:=fun b k hb h=>h.elim (fun h=>h) fun h=>absurd hb (by omega)
  have hfar:∀ i o,[Ow.var LD [.own 1],.obj (Dt E)][i]? = some o→∀ b,OwB s (ρ i) o b→s'.w.heap[b]? = s.w.heap[b]? ∧ ∀ k,s'.S b k↔s.S b k:=fun i o hi b hbo=>by
   have hlt:=(hhp i o hi).blk_lt0 hbo
   exact ⟨hbel.block b hlt,fun k=>⟨hold b k hlt,.inl⟩⟩
  have hback:∀ i o,[Ow.var LD [.own 1],.obj (Dt E)][i]? = some o→∀ b,OwB s' (ρ i) o b→OwB s (ρ i) o b:=fun i o hi b hb=>OwB.keep (hhp i o hi) hchg (hfar i o hi) hb
  have hget:∀ i o,[Ow.var LD [.own 1],.obj (Dt E),.obj (BD [⟨g,55,Ep ss⟩])][i]? = some o→(i<2∧[Ow.var LD [.own 1],.obj (Dt E)][i]? = some o)∨(i = 2∧o = .obj (BD [⟨g,55,Ep ss⟩])):=fun i o hi=>by
   match i,hi with
   | 0,hi=>exact .inl ⟨by omega,hi⟩
   | 1,hi=>exact .inl ⟨by omega,hi⟩
   | 2,hi=>cases hi;exact .inr ⟨rfl,rfl⟩
  have hown2:∀ b,OwB s' (ρ 2) (.obj (BD [⟨g,55,Ep ss⟩])) b→b = g:=fun b ⟨x,hx,e⟩=>by
   rw [List.mem_singleton.1 hx] at e
   exact e.symm
  refine ⟨_,rfl,s',ρ,.d (sX g ss.length cap),[.var LD [.own 1],.obj (Dt E),.obj (BD [⟨g,55,Ep ss⟩])],⟨ss,hperm,.inr ⟨g,cap,hpos,hc1,by simpa [maxLen] using hc2,rfl,rfl⟩⟩,rfl,rfl,⟨⟨hbel.os,hbel.tape,hbel.output,fun k hk _=>hbel.block k hk,hchg,fun b k hb _=>hold b k hb,fun _ _=>rfl,fun _=>hok'⟩,hok',fun i o hi=>?_,fun i j o o' hij hi hj b hbi hbj=>?_,fun i o b hi hb=>?_,fun _ _ _=>rfl,by simp⟩⟩
  ·rcases hget i o hi with ⟨h2,hi⟩ | ⟨rfl,rfl⟩
   ·exact ((hhp i o hi).keep hchg (hfar i o hi)).mono (by simp) (fun _ _=>rfl) h2
   ·refine ⟨fun x hx => ?_, by simp⟩
    rw [List.mem_singleton.1 hx]
    refine ⟨(by decide:(55:TypeId) ≠ 136),fun k hk=>hk.elim (fun h=>absurd (hok.lt g k h) (by omega)) fun h=>h.2.2 rfl,cur,hg,?_,fun k hk=>?_⟩
    ·show (Ep ss).length≤_
     rw [Dl,hcs]
     exact Nat.mul_le_mul_right 8 hc1
    ·have hk:k<(Ep ss).length:=hk
     rw [Dl] at hk
     have e5:BI (Ep ss) k = ex (.int .i64 (Bn ss (k / 8) (k % 8))):=by
      have:=IX ss (i:=k / 8) (j:=k % 8) (by omega) (by omega)
      rwa [show k / 8*8+k % 8 = k by omega] at this
     have e6:cur[k]? = some (.int .i64 (Bn ss (k / 8) (k % 8))):=by
      have h7:=Wn ss (i:=k / 8) (j:=k % 8) (by omega) (by omega)
      rw [show k / 8*8+k % 8 = k by omega,← htake,List.getElem?_take,if_pos (by omega)] at h7
      simpa using h7
     exact ⟨_,e6,rfl,by show (BI (Ep ss) k).rel s' _;rw [e5];rfl⟩
  ·rcases hget i o hi with ⟨h2,hi⟩ | ⟨rfl,rfl⟩
   ·rcases hget j o' hj with ⟨h3,hj⟩ | ⟨rfl,rfl⟩
    ·exact hsep i j o o' hij hi hj b (hback i o hi b hbi) (hback j o' hj b hbj)
    ·have:=(hhp i o hi).blk_lt0 (hback i o hi b hbi)
     have:=hown2 b hbj
     omega
   ·rcases hget j o' hj with ⟨h3,hj⟩ | ⟨rfl,rfl⟩
    ·have:=(hhp j o' hj).blk_lt0 (hback j o' hj b hbj)
     have:=hown2 b hbi
     omega
    ·exact absurd rfl hij
  ·rcases hget i o hi with ⟨h2,hi⟩ | ⟨rfl,rfl⟩
   ·exact .inl ⟨i,o,hi,hback i o hi b hb⟩
   ·exact .inr (by have:=hown2 b hb;omega)
theorem HY {P : Program} {f:FuncId} {fn:Func} {c:Code} {args:List AV} {Q:AV→List Ow→Prop} (hf:P.funcs[f]? = some fn) (hb:fn.body = some c) (hcf:∀ args w,(callFunc f args).run P w = .ok (.enter f args) w) (hn:Nat.ble args.length fn.ntmps = true) {o0 o1 o2 o3 o4:Ow} (h:∀ (s0:An) (v0 v1 v2 v3 v4:Value),AWp P s0 fn.ntmps c (FinC P fn [] [v0,v1,v2,v3,v4] Q) ⟨Fw 0 args,[o0,o1,o2,o3,o4,.pin [(v0,.own 0),(v1,.own 1),(v2,.own 2),(v3,.own 3),(v4,.own 4)]]⟩):Con P f args [o0,o1,o2,o3,o4] [] Q :=
 Gu hf hb hcf hn fun s0 vs hv=>by
  match vs,hv with
  | [v0,v1,v2,v3,v4],_=>exact h s0 v0 v1 v2 v3 v4
theorem Us : Con Tryz.prog 123 [.fn 125 [0]] [.var LD [.own 1],.obj (Dt [])] [] (fun r hp'=>r = .d (BW [])∧hp' = [.var LD [.own 1],.obj (Dt [])]):=by
 refine (MB [] (by decide)).mono fun r hp' ⟨ss,hp,h⟩=>?_
 have h0:ss = []:=hp.eq_nil
 rcases h with ⟨_,h1,h2⟩ | ⟨g,c,h1,_⟩
 ·exact ⟨h1,h2⟩
 ·subst h0
  exact absurd h1 (by decide)
theorem Ur (E : List KD) (h0:0<E.length) (hE:E.length≤1000000):Con Tryz.prog 123 [.fn 125 [0]] [.var LD [.own 1],.obj (Dt E)] [] (fun r hp'=>∃ (ss:Af) (g c:Nat),ss.Perm (Hv E)∧ss.length≤c∧c≤9223372036854775807∧r = .d (sX g ss.length c)∧hp' = [.var LD [.own 1],.obj (Dt E),.obj (BD [⟨g,55,Ep ss⟩])]):=by
 refine (MB E hE).mono fun r hp' ⟨ss,hp,h⟩=>?_
 rcases h with ⟨h1,_,_⟩ | ⟨g,c,h1,h2,h3,h4,h5⟩
 ·subst h1
  have:=hp.length_eq
  rw [List.length_map] at this
  simp at this
  omega
 ·exact ⟨ss,g,c,hp,h2,h3,h4,h5⟩
theorem Oq (E : List KD) (hE:E.length≤1000000):Con Tryz.prog 72 [.fn 125 [0],.d (ex (.func (.func 74) #[] #[]))] [.var LD [.own 1],.obj (Dt E)] [] (fun r hp'=>∃ (S:Af) (tl:List Ow),S.Perm (Hv E)∧(S.Pairwise fun a b=>lx a b≤0)∧r = .d (BW S)∧hp' = [.var LD [.own 1],.obj (Dt E),.dead] ++ tl∧(tl = []∨tl = [.dead])):=by
 by_cases h0:E = []
 ·subst h0
  refine HZ Tryz.func72 rfl (Am Tryz.func72 (by kernel_rfl) (by kernel_rfl)) rfl fun s0 pv0 pv1=>?_
  rw [Tryz.ntmps72]
  refine Y1<|Wa<|Y0<|Y1<|Wm ?_
  refine Bt [0,1] [] (Us) (by first | exact Or.inl rfl | exact Or.inr ⟨by decide,rfl,by repeat (first | exact AvoidR.nil | refine AK rfl ?_ | refine AvoidR.dead ?_ | refine AO ?_ | refine AvoidR.obj ?_ | refine AI ?_ | refine AJ rfl ?_ | refine AvoidR.pin rfl ?_)⟩) rfl rfl (by first | exact .inl ⟨rfl,rfl⟩ | exact .inr ⟨rfl,rfl⟩) (by repeat (first | exact ArgsC.nil | refine ArgsC.d rfl (D.le.refl _) ?_ | refine AZ rfl rfl ?_)) (by decide) (by repeat (first | exact SelR.nil | refine SelR.var rfl ?_ | refine SelR.obj rfl ?_ | refine Bh rfl ?_ | refine AU rfl rfl rfl ?_)) (by repeat (first | exact trivial | refine ⟨⟨_,_,rfl⟩,?_⟩)) rfl ?_
  rintro _ _ ⟨rfl,rfl⟩
  refine ⟨_,_,_,(by first | exact AVRen.d | exact AVRen.own rfl | exact AVRen.ptr rfl | exact AVRen.fn rfl),(by repeat (first | exact SetR.nil | (apply SetR.cons;(first | exact OwRen.dead | exact Aj | exact OwRen.obj | exact Aq | exact Ak rfl);exact rfl))),(by repeat (first | exact AppR.nil | (apply AppR.cons;(first | exact OwRen.dead | exact Aj | exact OwRen.obj | exact Aq | exact Ak rfl);exact rfl))),?_⟩
  try simp only [Bc,Bw]
  refine Wa<|Y0<|Y1<|Wm<|Wm ?_;refine Wq (Ai (Mc)) ?_;refine Y0<|Y1<|Wm<|Wa<|Y0 ?_;apply Aw
  refine BA (RetsA.one rfl) rfl ?_ rfl
  exact ⟨[],[],List.Perm.refl _,List.Pairwise.nil,rfl,rfl,.inl rfl⟩
 ·have hpos:0<E.length:=List.length_pos_iff.2 h0
  refine HZ Tryz.func72 rfl (Am Tryz.func72 (by kernel_rfl) (by kernel_rfl)) rfl fun s0 pv0 pv1=>?_
  rw [Tryz.ntmps72]
  refine Y1<|Wa<|Y0<|Y1<|Wm ?_
  refine Bt [0,1] [] (Ur E hpos hE) (by first | exact Or.inl rfl | exact Or.inr ⟨by decide,rfl,by repeat (first | exact AvoidR.nil | refine AK rfl ?_ | refine AvoidR.dead ?_ | refine AO ?_ | refine AvoidR.obj ?_ | refine AI ?_ | refine AJ rfl ?_ | refine AvoidR.pin rfl ?_)⟩) rfl rfl (by first | exact .inl ⟨rfl,rfl⟩ | exact .inr ⟨rfl,rfl⟩) (by repeat (first | exact ArgsC.nil | refine ArgsC.d rfl (D.le.refl _) ?_ | refine AZ rfl rfl ?_)) (by decide) (by repeat (first | exact SelR.nil | refine SelR.var rfl ?_ | refine SelR.obj rfl ?_ | refine Bh rfl ?_ | refine AU rfl rfl rfl ?_)) (by repeat (first | exact trivial | refine ⟨⟨_,_,rfl⟩,?_⟩)) rfl ?_
  rintro _ _ ⟨ss,g,c,hperm,hc1,hc2,rfl,rfl⟩
  refine ⟨_,_,_,(by first | exact AVRen.d | exact AVRen.own rfl | exact AVRen.ptr rfl | exact AVRen.fn rfl),(by repeat (first | exact SetR.nil | (apply SetR.cons;(first | exact OwRen.dead | exact Aj | exact OwRen.obj | exact Aq | exact Ak rfl);exact rfl))),(by repeat (first | exact AppR.nil | (apply AppR.cons;(first | exact OwRen.dead | exact Aj | exact OwRen.obj | exact Aq | exact Ak rfl);exact rfl))),?_⟩
  try simp only [Bc,Bw]
  have hsl:ss.length≤1000000:=by
   have:=hperm.length_eq
   rw [List.length_map] at this
   omega
  refine Wa<|Y0<|Y1<|Wm<|Wm ?_
  refine Bt [3] [] (Mb ss g c hsl) (by first | exact Or.inl rfl | exact Or.inr ⟨by decide,rfl,by repeat (first | exact AvoidR.nil | refine AK rfl ?_ | refine AvoidR.dead ?_ | refine AO ?_ | refine AvoidR.obj ?_ | refine AI ?_ | refine AJ rfl ?_ | refine AvoidR.pin rfl ?_)⟩) rfl rfl (by first | exact .inl ⟨rfl,rfl⟩ | exact .inr ⟨rfl,rfl⟩) (by repeat (first | exact ArgsC.nil | refine ArgsC.d rfl (D.le.refl _) ?_ | refine AZ rfl rfl ?_)) (by decide) (by repeat (first | exact SelR.nil | refine SelR.var rfl ?_ | refine SelR.obj rfl ?_ | refine Bh rfl ?_ | refine AU rfl rfl rfl ?_)) (by repeat (first | exact trivial | refine ⟨⟨_,_,rfl⟩,?_⟩)) rfl ?_
  rintro _ _ ⟨S,hS1,hS2,rfl,rfl⟩
  refine ⟨_,_,_,(by first | exact AVRen.d | exact AVRen.own rfl | exact AVRen.ptr rfl | exact AVRen.fn rfl),(by repeat (first | exact SetR.nil | (apply SetR.cons;(first | exact OwRen.dead | exact Aj | exact OwRen.obj | exact Aq | exact Ak rfl);exact rfl))),(by repeat (first | exact AppR.nil | (apply AppR.cons;(first | exact OwRen.dead | exact Aj | exact OwRen.obj | exact Aq | exact Ak rfl);exact rfl))),?_⟩
  try simp only [Bc,Bw]
  have hSl:S.length = ss.length:=hS1.length_eq
  refine DC (Fo (R:=BW S) 3 5 rfl rfl rfl rfl fun s' hs v hv=>?_) ?_
  ·rw [← hSl] at hv hc1
   exact Rc (hs _ List.mem_cons_self) hc1 hc2 hv
  refine Y0<|Y1<|Wm<|Wa<|Y0 ?_;apply Aw
  refine BA (RetsA.one rfl) rfl ?_ rfl
  exact ⟨S,[.dead],hS1.trans hperm,hS2,rfl,rfl,.inr rfl⟩
section
variable {hp : List Ow} {arg:Operand→AV} {dd:Option Tmp} {ty:TypeId} {ps:String} {af:Array Edge} {gd:Option (Nat × Bool)}
theorem MN {m x:Operand} {mt vt:TypeId} {id:Nat} {E:List KD} {a:Nat→Int} {d:TypeDesc} {n b n' b':Nat} {z z0:Value} (hn:∀ t∈E,¬ Eqv a t.1) (hm:arg m = .own id) (hid:hp[id]? = some (.obj (Dt E))) (hx:arg x = .d (BO (Ba a))) (hmt:Tab Tryz.prog mt (.map 55 vt) n b z) (hvt:Tab Tryz.prog vt d n' b' z0):Quiet Tryz.prog hp ⟨dd,.lookup mt m x false,ty,ps,af,gd⟩ arg (.d (ex z0)):=by
 refine ⟨fun base s ρ ev hok hbs hhp h=>?_⟩
 have h2:=h m (by simp [Op.operands])
 have h3:=h x (by simp [Op.operands])
 rw [hm] at h2;rw [hx] at h3
 obtain ⟨g,e1,h4⟩:=JG hhp h2 hid
 have e2:=CT h3
 have h5:=h4.look_none hmt.und hvt.run_zero hn false
 exact Bl (v:=z0) (by simp only [execOp,e1,e2,Sem.run_bind,h5,Result.andThen_ok,Sem.run_pure,Bool.false_eq_true,if_false]) ⟨GS.Le.refl s,rfl⟩
theorem UN {m x:Operand} {mt vt:TypeId} {id:Nat} {E:List KD} {a:Nat→Int} {n b:Nat} {z:Value} {d:D} (i:Nat) (hi:i<E.length) (he:Eqv a (Gz E i).1) (hn:∀ j,j<i→¬ Eqv a (Gz E j).1) (hd:(Gz E i).2 = d) (hm:arg m = .own id) (hid:hp[id]? = some (.obj (Dt E))) (hx:arg x = .d (BO (Ba a))) (hmt:Tab Tryz.prog mt (.map 55 vt) n b z):Quiet Tryz.prog hp ⟨dd,.lookup mt m x false,ty,ps,af,gd⟩ arg (.d d):=by
 subst hd
 refine ⟨fun base s ρ ev hok hbs hhp h=>?_⟩
 have h2:=h m (by simp [Op.operands])
 have h3:=h x (by simp [Op.operands])
 rw [hm] at h2;rw [hx] at h3
 obtain ⟨g,e1,h4⟩:=JG hhp h2 hid
 have e2:=CT h3
 obtain ⟨v,h6,h5⟩:=h4.look_some hmt.und hi he hn false
 exact Bl (v:=v) (by simp only [execOp,e1,e2,Sem.run_bind,h5,Result.andThen_ok,Sem.run_pure,Bool.false_eq_true,if_false]) ⟨GS.Le.refl s,h6⟩
end
theorem GC : Tab Tryz.prog LD (.map 55 4) 1 8 (.map none):=⟨Tryz.underlying96,by kernel_rfl⟩
theorem ZL : Tab Tryz.prog 4 .bool 1 1 (.bool false):=⟨Tryz.underlying4,by kernel_rfl⟩
theorem Sa : Tab Tryz.prog 97 (.func #[55] #[] false) 1 8 .nilFunc:=⟨Tryz.underlying97,by kernel_rfl⟩
abbrev clF : FuncId:=70
def bE (K : Af):List KD:=K.map fun a=>(a,ex (.bool true))
theorem Ro (K : Af):(bE K).length = K.length:=List.length_map ..
theorem YQ (K : Af):Hv (bE K) = K:=by
 unfold bE
 rw [Hv,List.map_map]
 exact List.map_id' K
theorem A1H {K : Af} {i:Nat} (h:i<(bE K).length):(Gz (bE K) i).2 = ex (.bool true):=by
 have h':i<K.length:=by rwa [Ro] at h
 unfold Gz bE
 rw [List.getD_eq_getElem?_getD,List.getElem?_map,List.getElem?_eq_getElem h']
 rfl
theorem A0B {K : Af} {i:Nat} (h:i<(bE K).length):(Gz (bE K) i).1∈K:=by
 have h':i<K.length:=by rwa [Ro] at h
 unfold Gz bE
 rw [List.getD_eq_getElem?_getD,List.getElem?_map,List.getElem?_eq_getElem h']
 exact List.getElem_mem h'
theorem YP (K : Af) (m:Nat→Int):HG (bE K) m (ex (.bool true)) none = bE (K ++ [m]):=by
 unfold bE HG
 rw [List.map_append]
 rfl
abbrev Rk (l : Af) (n:Nat) (K:Af):List Ow:=[.var LD [.own 1],.obj (Dt (bE K)),.var 28 ([BW l].map .d),.var 3 ([ex (.int .i64 (n:Nat))].map .d),.var 97 [.fn clF [0,2,3,4]]]
abbrev ColC (l : Af) (n:Nat) (K:Af) (m:Nat→Int):Prop:=Con Tryz.prog clF [.d (BO (Ba m)),.ptr 0 0,.ptr 2 0,.ptr 3 0,.ptr 4 0] (Rk l n K) [] (fun r hp'=>∃ K',Dfs l n K m K'∧r = .d Cu∧hp' = Rk l n K' ++ [.dead])
theorem WA (l : Af) (n:Nat) (K:Af) (tl:List Ow) (r:AV) (hp':List Ow) (Q:AV→List Ow→Prop) (hr:r = .d Cu) (hh:hp' = (Rk l n K ++ [.dead]) ++ tl) (hq:Q (.d Cu) (Rk l n K ++ [.dead])):∃ d hp2 tl,r = .d d∧hp' = hp2 ++ tl∧5≤hp2.length∧(∀ o∈hp2,Low hp2.length o)∧Q (.d d) hp2:=by
 refine ⟨Cu,_,tl,hr,hh,by simp,fun o ho=>?_,hq⟩
 simp only [List.cons_append,List.nil_append,List.mem_cons,List.not_mem_nil,or_false] at ho
 rcases ho with rfl | rfl | rfl | rfl | rfl | rfl
 ·refine Low.var fun av hav m' ρ s v h=>?_
  rw [List.mem_singleton.1 hav] at h ⊢
  exact ⟨by simp,h.2⟩
 ·exact fun _ _ _ _ h=>h
 ·exact Wi
 ·exact Wi
 ·refine Low.var fun av hav m' ρ s v h=>?_
  rw [List.mem_singleton.1 hav] at h ⊢
  exact ⟨fun i hi=>by
   simp only [List.mem_cons,List.not_mem_nil,or_false] at hi
   simp
   omega,h.2⟩
 ·exact Low.dead
theorem Oc {l : Af} {n:Nat} {K:Af} {m:Nat→Int} (h:Con Tryz.prog clF [.d (BO (Ba m)),.ptr 0 0,.ptr 2 0,.ptr 3 0,.ptr 4 0] (Rk l n K) [] (fun r hp'=>r = .d Cu∧∃ K' tl,Dfs l n K m K'∧hp' = (Rk l n K' ++ [.dead]) ++ tl)):ColC l n K m :=
 h.cut fun r hp' ⟨h1,K',tl,h3,h2⟩=>WA l n K' tl r hp' (fun r hp'=>∃ K',Dfs l n K m K'∧r = .d Cu∧hp' = Rk l n K' ++ [.dead]) h1 h2 ⟨K',h3,rfl,rfl⟩
theorem Wz (l : Af) (n:Nat) (K:Af) (m:Nat→Int) (hl:l.length≤1000000) (h:inB l m = true) (hno:∀ t∈bE K,¬ Eqv m t.1) (hp:K.Pairwise fun a b=>¬ Eqv a b):ColC l n K m:=by
 refine Oc ?_
 have ci:=JJ m l hl
 rw [h] at ci
 refine HY Tryz.func70 rfl (Am Tryz.func70 (by kernel_rfl) (by kernel_rfl)) rfl fun s0 pv0 pv1 pv2 pv3 pv4=>?_
 rw [Tryz.ntmps70]
 apply Y1;refine Bx ?_;refine Y0<|Ac<|Y1 ?_;refine Wq (Cn (ao rfl) rfl GC rfl rfl) ?_;refine Wq AN ?_;refine Wq (MN hno (ao rfl) rfl (ao rfl) GC ZL) ?_;refine Wm ?_;refine Wg AN ?_;refine Wg Bb ?_;refine Wg (Ai (ci)) ?_;refine Wq Bz ?_;apply Y0;refine Ct ?_;apply Aw;apply AR
 refine BA Eu rfl ?_ rfl
 exact ⟨rfl,K,_,Xz h hp,rfl⟩
theorem PL (l : Af) (n:Nat) (K:Af) (m:Nat→Int) (i:Nat) (hi:i<(bE K).length) (he:Eqv m (Gz (bE K) i).1) (hn:∀ j,j<i→¬ Eqv m (Gz (bE K) j).1) (hpre:PreD l n K m) (hp:K.Pairwise fun a b=>¬ Eqv a b):ColC l n K m:=by
 refine Oc ?_
 refine HY Tryz.func70 rfl (Am Tryz.func70 (by kernel_rfl) (by kernel_rfl)) rfl fun s0 pv0 pv1 pv2 pv3 pv4=>?_
 rw [Tryz.ntmps70]
 apply Y1;refine Bx ?_;refine Y0<|Ac<|Y1 ?_;refine Wq (Cn (ao rfl) rfl GC rfl rfl) ?_;refine Wq AN ?_;refine Wq (UN i hi he hn (A1H hi) (ao rfl) rfl (ao rfl) GC) ?_;refine Wm ?_;refine Ws ?_;refine Ws ?_;refine Ws ?_;refine Wq AW ?_;apply Y0;refine Ct ?_;apply Aw;apply AR
 refine BA Eu rfl ?_ rfl
 exact ⟨rfl,K,_,Xy ⟨_,A0B hi,he.symm⟩ hpre hp,rfl⟩
theorem XY (m : Nat→Int) (i:Nat):Ij (QI m i) i (QI m i i - 1) = m:=by
 funext j
 unfold QI Ij
 by_cases h:j = i
 ·subst h
  rw [if_pos rfl,if_pos rfl]
  omega
 ·rw [if_neg h,if_neg h]
theorem A0z (l : Af) (n:Nat) (K:Af) (m:Nat→Int) (hn8:n≤8) (hl:l.length≤1000000) (hs:StdX l n m) (hm:In8 m 0 10000) (hno:∀ t∈bE K,¬ Eqv m t.1) (hpre:PreD l n K m) (hp:K.Pairwise fun a b=>¬ Eqv a b) (ih:∀ (i:Nat) (K1:Af),i<n→PreD l n K1 (QI m i)→(K1.Pairwise fun a b=>¬ Eqv a b)→ColC l n K1 (QI m i)):ColC l n K m:=by
 refine Oc ?_
 have ci:=JJ m l hl
 rw [hs.2] at ci
 have hK:∀ x∈K,¬ Eqv m x:=fun x hx=>hno (x,ex (.bool true)) (List.mem_map.2 ⟨x,hx,rfl⟩)
 have hst:=YP K m
 refine HY Tryz.func70 rfl (Am Tryz.func70 (by kernel_rfl) (by kernel_rfl)) rfl fun s0 pv0 pv1 pv2 pv3 pv4=>?_
 rw [Tryz.ntmps70]
 apply Y1;refine Bx ?_;refine Y0<|Ac<|Y1 ?_;refine Wq (Cn (ao rfl) rfl GC rfl rfl) ?_;refine Wq AN ?_;refine Wq (MN hno (ao rfl) rfl (ao rfl) GC ZL) ?_;refine Wm ?_;refine Wg AN ?_;refine Wg Bb ?_;refine Wg (Ai (ci)) ?_;refine Wq Bz ?_;apply Y0;refine Cf ?_;refine Ys<|Y1 ?_;refine Wq (Cn (ao rfl) rfl GC rfl rfl) ?_;refine Wq AN ?_;refine XD none (.no hno) (ao rfl) rfl (ao rfl) rfl GC rfl ?_;refine Y0<|Y1 ?_;refine Wq Bb ?_;refine Wm<|Y0<|AWp.block ?_
 rw [hst]
 skip
 refine AT (fun mz σ=>∃ i,i≤n∧mz = n - i∧∃ K1,DfsI l n K m i K1∧σ = ⟨[(1,.ptr 0 0),(2,.ptr 2 0),(3,.ptr 3 0),(4,.ptr 4 0),(5,.ptr 6 0),(17,.d (ex (.int .i64 (n:Nat)))),(18,.d (ex (.int .i64 (i:Nat))))],[.var LD [.own 1],.obj (Dt (bE K1)),.var 28 ([BW l].map .d),.var 3 ([ex (.int .i64 (n:Nat))].map .d),.var 97 [.fn clF [0,2,3,4]],.pin [(pv0,.own 0),(pv1,.own 1),(pv2,.own 2),(pv3,.own 3),(pv4,.own 4)],.var 55 ((Ba m).map .d)]⟩) ?le ⟨0,by omega,rfl,K ++ [m],DfsI.start hs hK hp,rfl⟩ ?round
 case le=>exact Ao (by exact Yp<|Yp<|Yp<|Yp<|Yp<|Yd<|Yd<|FrLe.nil) (by exact HpLe.cons (BV rfl)<|HpLe.cons (OwLe.obj rfl)<|Yv<|Yv<|HpLe.cons (BV rfl)<|HpLe.cons (Bi rfl)<|Yv<|HpLe.nil)
 case round =>
  rintro mz _ ⟨i,hi,rfl,K1,hD,rfl⟩
  by_cases hlt:i<n
  ·have hi8 : i < 8 := by omega
   have hmi:=hm i hi8
   have cc:=ih i K1 hlt (hD.pre hpre hi8) hD.pw
   apply Y1;refine Wq AA ?_;refine Y0<|Ac ?_;refine Ct ?_;refine Ys<|Ac<|AWp.block<|Y1<|Wm<|Wa<|Y0<|Y1<|Wm ?_;refine Wq Dz ?_;refine Wq DU ?_;refine Wq Fl ?_;refine Wq Dz ?_;(refine GZ (ao rfl) (ao rfl) rfl (Ae rfl) (by first | exact DK rfl | exact One.sl | exact FH) (SetAt.mon (by first | omega | (simp;omega))) rfl ?_);refine Y0<|Y1 ?_;refine Wq (Cn (ao rfl) rfl Sa rfl rfl) ?_;refine Wq AN ?_
   refine Bt [0,1,2,3,4] [0,2,3,4] (cc) (by first | exact Or.inl rfl | exact Or.inr ⟨by decide,rfl,by repeat (first | exact AvoidR.nil | refine AK rfl ?_ | refine AvoidR.dead ?_ | refine AO ?_ | refine AvoidR.obj ?_ | refine AI ?_ | refine AJ rfl ?_ | refine AvoidR.pin rfl ?_)⟩) rfl rfl (by first | exact .inl ⟨rfl,rfl⟩ | exact .inr ⟨rfl,rfl⟩) (by repeat (first | exact ArgsC.nil | refine ArgsC.d rfl (D.le.refl _) ?_ | refine AZ rfl rfl ?_)) (by decide) (by repeat (first | exact SelR.nil | refine SelR.var rfl ?_ | refine SelR.obj rfl ?_ | refine Bh rfl ?_ | refine AU rfl rfl rfl ?_)) (by repeat (first | exact trivial | refine ⟨⟨_,_,rfl⟩,?_⟩)) rfl ?_
   rintro _ _ ⟨K2,hD2,rfl,rfl⟩
   refine ⟨_,_,_,(by first | exact AVRen.d | exact AVRen.own rfl | exact AVRen.ptr rfl | exact AVRen.fn rfl),(by repeat (first | exact SetR.nil | (apply SetR.cons;(first | exact OwRen.dead | exact Aj | exact OwRen.obj | exact Aq | exact Ak rfl);exact rfl))),(by repeat (first | exact AppR.nil | (apply AppR.cons;(first | exact OwRen.dead | exact Aj | exact OwRen.obj | exact Aq | exact Ak rfl);exact rfl))),?_⟩
   try simp only [Bc,Bw]
   have hz:Ij m i (m i+1) i = m i+1:=if_pos rfl
   refine Y0<|AWp.region<|Wm ?_;refine Wq Dz ?_;refine Wq DU ?_;refine Wq Gr ?_;refine Wq Dz ?_;(refine GZ (ao rfl) (ao rfl) rfl (Ae rfl) (by first | exact DK rfl | exact One.sl | exact FH) (SetAt.mon (by first | omega | (simp;omega))) rfl ?_);apply AWl.nil;apply As;refine Yn<|AWp.region ?_;refine Wq Bd ?_;refine Wm ?_;apply AWl.nil
   refine ALoop.next (n - (i+1)) (by omega) ⟨i+1,by omega,rfl,K2,hD.step hD2,rfl⟩ ?_
   exact Ao (by exact Yp<|Yp<|Yp<|Yp<|Yp<|Yd<|Yd<|FrLe.nil) (by exact HpLe.cons (BV rfl)<|HpLe.cons (OwLe.obj rfl)<|Yv<|Yv<|HpLe.cons (BV rfl)<|HpLe.cons (Bi rfl)<|HpLe.cons (DJ (by rw [XY]))<|HpLe.nil)
  ·obtain rfl : i = n := by omega
   apply Y1;refine Wq At ?_;refine Y0<|Ac ?_;refine Cf ?_;apply AP;apply AF;apply AG;apply AH
   refine GY Eu rfl ?_ rfl
   exact ⟨rfl,K1,_,hD.done hn8 (fun j hj=>(hm j hj).1),rfl⟩
theorem Rj {x : Nat→Int} {B:Nat}:∀ (k i:Nat),(∀ j,i≤j→j<i+k→x j≤B)→CK k i x≤k*B
 | 0,_,_=>Nat.zero_le _
 | k+1,i,h=>by
  have h1:=h i (Nat.le_refl i) (by omega)
  have h2:=Rj (B:=B) k (i+1) fun j a b=>h j (by omega) (by omega)
  rw [CK,Nat.succ_mul]
  omega
theorem YJ (l : Af) (n B:Nat) (hn8:n≤8) (hl:l.length≤1000000) (hB:∀ y,StdX l n y→∀ j,j<8→y j≤B) (hBs:B≤1000):∀ (k:Nat) (K:Af) (m:Nat→Int),8*B+1≤CK 8 0 m+k→(∀ j,j<8→0≤m j∧m j≤B+1∧(n≤j→m j = 0))→PreD l n K m→(K.Pairwise fun a b=>¬ Eqv a b)→ColC l n K m:=by
 intro k
 induction k with
 | zero =>
  intro K m hk hm hpre hp
  rcases Wl (bE K) m with h | ⟨i,h1,h2,h3⟩
  ·cases hi:inB l m with
   | true=>exact Wz l n K m hl hi h hp
   | false =>
    have hs:StdX l n m:=⟨fun j hj=>⟨(hm j hj).1,(hm j hj).2.2⟩,hi⟩
    have:=Rj (x:=m) (B:=B) 8 0 fun j _ h=>hB m hs j (by omega)
    omega
  ·exact PL l n K m i h1 h2 h3 hpre hp
 | succ k ih =>
  intro K m hk hm hpre hp
  rcases Wl (bE K) m with h | ⟨i,h1,h2,h3⟩
  ·cases hi:inB l m with
   | true=>exact Wz l n K m hl hi h hp
   | false =>
    have hs:StdX l n m:=⟨fun j hj=>⟨(hm j hj).1,(hm j hj).2.2⟩,hi⟩
    refine A0z l n K m hn8 hl hs (fun j hj=>?_) h hpre hp fun i K1 hin hpre1 hp1=>ih K1 (QI m i) ?_ (fun j hj=>?_) hpre1 hp1
    ·have:=hm j hj
     have:=hB m hs j hj
     omega
    ·rw [A0t m i (fun j hj => (hm j hj).1) (by omega)]
     omega
    ·have h1:=hm j hj
     have h2:=hB m hs j hj
     rw [JX]
     split
     ·rename_i e
      subst e
      omega
     ·omega
  ·exact PL l n K m i h1 h2 h3 hpre hp
section
variable {P : Program} {s0:An} {n:Nat} {ops:Array Oper} {Q:Exit→AS→Prop} {rest:List Oper} {fr:List (Nat × AV)} {hp hp':List Ow} {ty:TypeId} {ps:String} {af:Array Edge}
theorem ZD {T : TypeId} {x:Operand} {av:AV} {k t:Nat} (hx:AS.arg ⟨fr,hp⟩ x = av) (h1:One hp av) (hT:Nat.beq T 136 = false) (hd:Nat.blt t n = true) (hk:Fd hp = some k) (hs:Dc hp (.var T [av]) = some hp') (h:AWl P s0 n ops Q rest ⟨(t,.ptr k 0) :: fr,hp'⟩):AWl P s0 n ops Q (⟨some t,.box T x,ty,ps,af,none⟩ :: rest) ⟨fr,hp⟩:=by
 have hT':T ≠ 136:=Nat.ne_of_beq_eq_false hT
 rw [Cz hs] at h
 have hk':=DF hk
 subst hk'
 refine AWl.step rfl fun s ρ a hst K hK=>?_
 have hv:AVr hp.length ρ s av (a.eval x):=by
  have:=hst.arg x
  rw [hx] at this
  exact this
 have h1v:(a.eval x).oneCell' = true:=h1 0 ρ s _ hst.hp hv
 obtain ⟨u,e1⟩:∃ u,a.eval x = u:=⟨_,rfl⟩
 rw [e1] at hv h1v
 have hcs:u.cells = #[u]:=by cases u <;> first | rfl | cases h1v
 have hrun:(execOp a.eval ⟨some t,.box T x,ty,ps,af,none⟩).run P s.w = .ok (.value (.pointer (some ⟨s.w.heap.size,0,none⟩))) (s.w.alloc (.cells #[u] T)):=by
  simp only [execOp,e1,Instr.box,Sem.run_bind,Es,Result.andThen_ok,Sem.run_pure,hcs]
 unfold Oper.wp
 rw [hrun]
 have hle:=s.le_mk' #[u] T 0 hT'
 refine hK _ _ _ h ⟨s.mk' #[u] T 0,_,rfl,hst.new (dst:=some t) (r:=.ptr hp.length 0) (ow:=.var T [av]) hle (FG (by simpa [QE] using hd)) (u:=.pointer (some ⟨s.w.heap.size,0,none⟩)) ⟨Nat.lt_succ_self hp.length,s.w.heap.size,by simp,rfl⟩ ?_ fun b hb=>by cases hb;exact Nat.le_refl _⟩
 refine ⟨s.w.heap.size,#[u],by simp,Nat.zero_le _,heap_alloc_new s.w _,by simp,hT',fun k hk=>absurd (hst.ok.lt _ _ hk) (Nat.lt_irrefl _),fun k av' hk=>?_⟩
 cases k with
 | zero =>
  cases hk
  exact ⟨u, by simp, h1v, (hv.chg hle.chg).mono (Nat.le_succ _) fun i hi => by
   have:i ≠ hp.length:=Nat.ne_of_lt hi
   simp [this]⟩
 | succ k=>cases hk
theorem Xv {id : Nat} {E:List KD} (h:hp[id]? = some (.obj (Dt E))):One hp (.own id):=fun base ρ s v hh hv=>by
 obtain ⟨b,e,_⟩:=JG hh hv h
 rw [e]
 rfl
end
theorem Ub (E : List KD):Con Tryz.prog 73 [.own 0] [.obj (Dt E)] [] (fun r hp'=>r = .fn 125 [2]∧hp' = [.obj (Dt E),.dead,.var LD [.own 0]]):=by
 refine BH Tryz.func73 rfl (Am Tryz.func73 (by kernel_rfl) (by kernel_rfl)) rfl fun s0 pv0=>?_
 rw [Tryz.ntmps73]
 apply Y1;refine ZD (ao rfl) (Xv rfl) rfl rfl rfl rfl ?_;refine Wa<|Y0<|Y1 ?_;refine Wq (FA [2] rfl) ?_;refine Wa<|Y0 ?_;apply Aw
 refine BA (RetsA.one rfl) rfl ?_ rfl
 exact ⟨rfl,rfl⟩
theorem Oo (E : List KD) (hE:E.length≤1000000):Con Tryz.prog 72 [.fn 125 [0],.d (ex (.func (.func 74) #[] #[]))] [.var LD [.own 1],.obj (Dt E)] [] (fun r hp'=>∃ (S:Af),S.Perm (Hv E)∧(S.Pairwise fun a b=>lx a b≤0)∧r = .d (BW S)∧hp' = [.var LD [.own 1],.obj (Dt E),.dead]) :=
 (Oq E hE).cut fun r hp' ⟨S, tl, h1, h2, h3, h4, _⟩ => ⟨BW S, [.var LD [.own 1], .obj (Dt E), .dead], tl, h3, h4, by simp, fun o ho => by
  simp only [List.mem_cons,List.not_mem_nil,or_false] at ho
  rcases ho with rfl | rfl | rfl
  ·refine Low.var fun av hav m' ρ s v h=>?_
   rw [List.mem_singleton.1 hav] at h ⊢
   exact ⟨by simp,h.2⟩
  ·exact fun _ _ _ _ h=>h
  ·exact Low.dead,⟨S,h1,h2,rfl,rfl⟩⟩
def IsStd (l : Af) (n:Nat) (S:Af):Prop:=(S.Pairwise fun a b=>lx a b<0)∧∀ x,MemE x S↔StdX l n x
theorem Uz (l : Af) (n B:Nat) (d deg:Int) (hn8:n≤8) (hl:l.length≤1000) (hB:∀ y,StdX l n y→∀ j,j<8→y j≤B) (hBs:B≤1000) (hcnt:∀ K:Af,(∀ x,MemE x K↔StdX l n x)→(K.Pairwise fun a b=>¬ Eqv a b)→K.length≤1000000) (hd:d≤0) (hdeg:deg≤1000) (ck:Abs Tryz.prog 46 [BW l,ex (.int .i64 (n:Nat))] (ex (.int .i64 0))) (cd:Abs Tryz.prog 55 [BW l,ex (.int .i64 (n:Nat))] (ex (.int .i64 d))) (cg:Abs Tryz.prog 56 [BW l,ex (.int .i64 (n:Nat))] (ex (.int .i64 deg))):Abs Tryz.prog 28 [BW l,ex (.int .i64 (n:Nat))] (DM [Ot (IsStd l n) BW,ex (.int .i64 0)]):=by
 have hd':¬ 0<d:=by omega
 have hdeg':¬ 1000<deg:=by omega
 have cc:=YJ l n B hn8 (by omega) hB hBs (8*B+1) [] (fun _=>0) (by omega) (fun j hj=>⟨Int.le_refl 0,by omega,fun _=>rfl⟩) (PreD.top l n _) List.Pairwise.nil
 refine Ab Tryz.func28 fun s0=>?_
 rw [Tryz.ntmps28]
 apply Y1;refine Tv (ao rfl) One.sl rfl rfl rfl rfl ?_;refine Tw (ao rfl) rfl rfl rfl rfl rfl ?_;refine Wa<|Wa<|Y0<|Ac<|Y1 ?_;refine Wq Bb ?_;refine Wq Bb ?_;refine Wq (Ai (ck)) ?_;refine Wa<|Y0<|Y1<|Wm ?_;refine Wq At ?_;apply Y0;refine Cf ?_;refine Ys<|Ac<|Y1 ?_;refine Wq Bb ?_;refine Wq Bb ?_;refine Wq (Ai (cd)) ?_;refine Wq At ?_;apply Y0;refine Cf ?_;refine Ys<|Ac<|Y1 ?_;refine Wq Bb ?_;refine Wq Bb ?_;refine Wq (Ai (cg)) ?_;refine Wq At ?_;apply Y0;refine Cf ?_;refine Ys<|Y1 ?_;refine XE rfl rfl rfl ?_;refine Ly GC rfl rfl rfl rfl rfl rfl ?_;refine IM (ao rfl) (ao rfl) rfl GC (Xv rfl) rfl rfl ?_;refine Y0<|Y1 ?_;refine Ly Sa rfl rfl rfl rfl rfl rfl ?_;refine Y0<|Y1 ?_;refine Wq (FA [3,0,1,4] rfl) ?_;refine IM (ao rfl) (ao rfl) rfl Sa One.fn rfl rfl ?_;refine Y0<|Y1 ?_;refine Wq (Cn (ao rfl) rfl Sa rfl rfl) ?_;(refine DB rfl rfl ?_;(refine FJ (Ae rfl) (Ae rfl) rfl rfl ?_;(repeat ((first | refine ⟨_,BL (ao rfl),?_⟩ | refine ⟨_,Po rfl,?_⟩);refine ⟨_,rfl,?_⟩));refine ⟨_,rfl,?_⟩))
 refine Bt [3,2,0,1,4] [0,2,3,4] (cc) (by first | exact Or.inl rfl | exact Or.inr ⟨by decide,rfl,by repeat (first | exact AvoidR.nil | refine AK rfl ?_ | refine AvoidR.dead ?_ | refine AO ?_ | refine AvoidR.obj ?_ | refine AI ?_ | refine AJ rfl ?_ | refine AvoidR.pin rfl ?_)⟩) rfl rfl (by first | exact .inl ⟨rfl,rfl⟩ | exact .inr ⟨rfl,rfl⟩) (by repeat (first | exact ArgsC.nil | refine ArgsC.d rfl (D.le.refl _) ?_ | refine AZ rfl rfl ?_)) (by decide) (by repeat (first | exact SelR.nil | refine SelR.var rfl ?_ | refine SelR.obj rfl ?_ | refine Bh rfl ?_ | refine AU rfl rfl rfl ?_)) (by repeat (first | exact trivial | refine ⟨⟨_,_,rfl⟩,?_⟩)) rfl ?_
 rintro _ _ ⟨K,hD,rfl,rfl⟩
 refine ⟨_,_,_,(by first | exact AVRen.d | exact AVRen.own rfl | exact AVRen.ptr rfl | exact AVRen.fn rfl),(by repeat (first | exact SetR.nil | (apply SetR.cons;(first | exact OwRen.dead | exact Aj | exact OwRen.obj | exact Aq | exact Ak rfl);exact rfl))),(by repeat (first | exact AppR.nil | (apply AppR.cons;(first | exact OwRen.dead | exact Aj | exact OwRen.obj | exact Aq | exact Ak rfl);exact rfl))),?_⟩
 try simp only [Bc,Bw]
 obtain ⟨hk1,hk2⟩:=hD.top
 have hKl:=hcnt K hk1 hk2
 refine Y0<|Y1 ?_;refine Wq (Cn (ao rfl) rfl GC rfl rfl) ?_
 refine Bt [2] [] (Ub (bE K)) (by first | exact Or.inl rfl | exact Or.inr ⟨by decide,rfl,by repeat (first | exact AvoidR.nil | refine AK rfl ?_ | refine AvoidR.dead ?_ | refine AO ?_ | refine AvoidR.obj ?_ | refine AI ?_ | refine AJ rfl ?_ | refine AvoidR.pin rfl ?_)⟩) rfl rfl (by first | exact .inl ⟨rfl,rfl⟩ | exact .inr ⟨rfl,rfl⟩) (by repeat (first | exact ArgsC.nil | refine ArgsC.d rfl (D.le.refl _) ?_ | refine AZ rfl rfl ?_)) (by decide) (by repeat (first | exact SelR.nil | refine SelR.var rfl ?_ | refine SelR.obj rfl ?_ | refine Bh rfl ?_ | refine AU rfl rfl rfl ?_)) (by repeat (first | exact trivial | refine ⟨⟨_,_,rfl⟩,?_⟩)) rfl ?_
 rintro _ _ ⟨rfl,rfl⟩
 refine ⟨_,_,_,(by first | exact AVRen.d | exact AVRen.own rfl | exact AVRen.ptr rfl | exact AVRen.fn rfl),(by repeat (first | exact SetR.nil | (apply SetR.cons;(first | exact OwRen.dead | exact Aj | exact OwRen.obj | exact Aq | exact Ak rfl);exact rfl))),(by repeat (first | exact AppR.nil | (apply AppR.cons;(first | exact OwRen.dead | exact Aj | exact OwRen.obj | exact Aq | exact Ak rfl);exact rfl))),?_⟩
 try simp only [Bc,Bw]
 refine Bt [7,2] [] (Oo (bE K) (by rw [Ro];exact hKl)) (by first | exact Or.inl rfl | exact Or.inr ⟨by decide,rfl,by repeat (first | exact AvoidR.nil | refine AK rfl ?_ | refine AvoidR.dead ?_ | refine AO ?_ | refine AvoidR.obj ?_ | refine AI ?_ | refine AJ rfl ?_ | refine AvoidR.pin rfl ?_)⟩) rfl rfl (by first | exact .inl ⟨rfl,rfl⟩ | exact .inr ⟨rfl,rfl⟩) (by repeat (first | exact ArgsC.nil | refine ArgsC.d rfl (D.le.refl _) ?_ | refine AZ rfl rfl ?_)) (by decide) (by repeat (first | exact SelR.nil | refine SelR.var rfl ?_ | refine SelR.obj rfl ?_ | refine Bh rfl ?_ | refine AU rfl rfl rfl ?_)) (by repeat (first | exact trivial | refine ⟨⟨_,_,rfl⟩,?_⟩)) rfl ?_
 rintro _ _ ⟨S,hS1,hS2,rfl,rfl⟩
 refine ⟨_,_,_,(by first | exact AVRen.d | exact AVRen.own rfl | exact AVRen.ptr rfl | exact AVRen.fn rfl),(by repeat (first | exact SetR.nil | (apply SetR.cons;(first | exact OwRen.dead | exact Aj | exact OwRen.obj | exact Aq | exact Ak rfl);exact rfl))),(by repeat (first | exact AppR.nil | (apply AppR.cons;(first | exact OwRen.dead | exact Aj | exact OwRen.obj | exact Aq | exact Ak rfl);exact rfl))),?_⟩
 try simp only [Bc,Bw]
 rw [YQ] at hS1
 obtain ⟨hs1,hs2⟩:=QP hS1 hS2 hk2
 have hstd:IsStd l n S:=⟨hs1,fun x=>(hs2 x).trans (hk1 x)⟩
 refine Wa<|Wa<|Y0 ?_;apply Aw
 exact BQ (CW (ResV.tmp rfl rfl) (ResV.tmp rfl rfl) (Cy (fun s v h=>⟨S,hstd,h⟩) (D.le.refl _)))
abbrev FF (l : Af) (n:Nat):Int:=HT (Ei l (2 ^ n))
def YF (l : Af) (n N:Nat) (f:Nat→Int):Int:=if FF l n<0 then 0 else Bv (cN N f (n - (FF l n).toNat)).1 (Cr (n - (FF l n).toNat) f)
structure HilC (l : Af) (n N:Nat) (f:Nat→Int):Prop where
 ck:Abs Tryz.prog 46 [BW l,ex (.int .i64 (n:Nat))] (ex (.int .i64 0))
 num:NumL l N f
 nle:N≤6145
 bnd:∀ i,-4096≤f i∧f i≤4096
 cn:Abs Tryz.prog 47 [BW l] (nD N f)
 cd:Abs Tryz.prog 55 [BW l,ex (.int .i64 (n:Nat))] (ex (.int .i64 (FF l n)))
 cc:∀ Dm:Nat,FF l n = Dm→Abs Tryz.prog 58 [BW l,ex (.int .i64 (n:Nat)),ex (.int .i64 (Dm:Nat))] (nD (cN N f (n - Dm)).1 (Cr (n - Dm) f))
 cg:Abs Tryz.prog 56 [BW l,ex (.int .i64 (n:Nat))] (ex (.int .i64 (YF l n N f)))
 dle:FF l n≤n
 far:∀ Dm:Nat,FF l n = Dm→∀ i,(cN N f (n - Dm)).1≤i→Cr (n - Dm) f i = 0
 pos:∀ Dm:Nat,FF l n = Dm→0<Bv (cN N f (n - Dm)).1 (Cr (n - Dm) f)
 qb:∀ Dm:Nat,FF l n = Dm→∀ j,-9223372036854775808≤Cr (n - Dm) f j∧Cr (n - Dm) f j≤9223372036854775807
theorem Vp (S : Nat→Bool):∀ (k i:Nat),Jf k i S≤k
 | 0,_=>Nat.le_refl 0
 | k+1,i=>by
  have:=Vp S k (i+1)
  rw [Jf]
  split <;> omega
theorem Sj : ∀ (k i:Nat),Jf k i (fun _=>true) = k
 | 0,_=>rfl
 | k+1,i=>by
  rw [Jf,Sj k (i+1),if_pos rfl]
  omega
theorem FS.sum_eq {p : Nat→Int} {B M:Nat} {c:Int} (h:FS p B c) (hM:∀ i,M≤i→p i = 0):Bv M p = c:=by
 have h1:FS p M (Bv M p):=⟨hM,rfl⟩
 have h2:=h1.more (B':=max M B) (by omega)
 have h3:=h.more (B':=max M B) (by omega)
 exact h2.2.symm.trans h3.2
theorem A1D {l : Af} {n:Nat} (hn:n≤8) (h2:∀ y∈l,SupN n y):FF l n≤n:=by
 rcases (NG hn h2).2 with h | ⟨S,_,h⟩
 ·have:FF l n = -1:=h
  omega
 ·have:=Vp S n 0
  have h:FF l n = _:=h
  omega
theorem NC (k Dg n:Nat) (l:Af) (hn:n≤8) (hk:k≤12) (hl:l.length≤k) (hDg:Dg≤512) (h1:∀ y∈l,In8 y 0 64) (h2:∀ y∈l,SupN n y) (hg:∀ y∈l,CK 8 0 y≤Dg) (hbig:(2:Int) ^ k*(((Dg*k:Nat):Int)+1) ^ (n+1)≤9223372036854775807):∃ N f,HilC l n N f:=by
 obtain ⟨N,f,hcn,hnum,hN,hb,hw⟩:=LJ Dg k hDg hk l hl h1 hg
 have hDk:Dg*k≤512*12:=Nat.mul_le_mul hDg hk
 have hpk:(2:Int) ^ k≤4096:=by
  have h2:2 ^ k≤2 ^ 12:=Nat.pow_le_pow_right (by decide) hk
  exact_mod_cast h2
 have hB:Bnd f (Dg*k) (2 ^ k):=fun t _=>hb t
 have hbg:∀ j,j≤n+1→(2:Int) ^ k*(((Dg*k:Nat):Int)+1) ^ j≤9223372036854775807:=fun j hj=>Mj hB.pos hbig hj
 have ck:=WC l n hn (by omega) h1 h2
 have cd:=Up l n hn (by omega)
 have hdim:=NG hn h2
 have hdl:=A1D hn h2
 obtain ⟨c0,hser⟩:=Np hn h2 hnum.num
 have hfs:∀ Dm:Nat,FF l n = Dm→∃ B,FS (Cr (n - Dm) f) B c0∧0<c0:=fun Dm hDm=>by
  rcases hser with ⟨g1,_,_⟩ | ⟨m,p,B,g1,g2,g3,g4⟩
  ·have g1:FF l n = -1:=g1
   omega
  ·have g1:FF l n = (m:Int):=g1
   obtain rfl:m = Dm:=by omega
   have e:Cr (m+(n - m)) f = Cr m p:=by rw [show m+(n - m) = n by omega];exact g4
   exact ⟨B,by rw [TN e];exact g2,g3⟩
 have hfar:∀ Dm:Nat,FF l n = Dm→∀ i,(cN N f (n - Dm)).1≤i→Cr (n - Dm) f i = 0:=fun Dm hDm=>by
  obtain ⟨B,h3,_⟩:=hfs Dm hDm
  exact WH hnum.far h3 _ (Nat.le_refl _)
 have hsum:∀ Dm:Nat,FF l n = Dm→Bv (cN N f (n - Dm)).1 (Cr (n - Dm) f) = c0∧0<c0:=fun Dm hDm=>by
  obtain ⟨B,h3,h4⟩:=hfs Dm hDm
  exact ⟨h3.sum_eq (hfar Dm hDm),h4⟩
 have hM:∀ j,(cN N f j).1≤Dg*k+1:=fun j=>Nat.le_trans (PP N f j) (by omega)
 have hcc:∀ Dm:Nat,FF l n = Dm→Abs Tryz.prog 58 [BW l,ex (.int .i64 (n:Nat)),ex (.int .i64 (Dm:Nat))] (nD (cN N f (n - Dm)).1 (Cr (n - Dm) f)):=fun Dm hDm=>by
  by_cases hr:n - Dm = 0
  ·obtain rfl : Dm = n := by omega
   rw [Nat.sub_self]
   exact Uv l Dm N f (by omega) hcn
  ·rcases hw with rfl | rfl | hw
   ·exfalso
    have:=hdim.1 (fun _=>true) fun a ha=>by cases ha
    rw [Sj] at this
    have:(n:Int)≤FF [] n:=this
    omega
   ·exfalso
    obtain ⟨a,ha,h0⟩:=hnum.whole fun y hy j hj=>⟨((h2 y hy) j hj).1,fun h=>by omega⟩
    rcases hdim.2 with h | ⟨S,h,_⟩
    ·have h:FF l n = -1:=h
     omega
    ·obtain ⟨j,_,hj,_,hp⟩:=h a ha
     rw [h0 j (by omega)] at hp
     omega
   ·exact WD l n Dm (n - Dm) N (Dg*k) f (2 ^ k) (by omega) (by omega) (by omega) (by omega) hB (hbg _ (by omega)) hw
 have hqb:∀ Dm:Nat,FF l n = Dm→∀ j,-9223372036854775808≤Cr (n - Dm) f j∧Cr (n - Dm) f j≤9223372036854775807:=fun Dm hDm j=>by
  by_cases hj:j≤Dg*k
  ·have h3:=hB.sumn (n - Dm) j hj
   have h4:=hbg (n - Dm) (by omega)
   omega
  ·rw [hfar Dm hDm j (by have := hM (n - Dm); omega)]
   omega
 refine ⟨N,f,ck,hnum,by omega,fun i=>by have:=hb i;omega,hcn,cd,hcc,?_,hdl,hfar,fun Dm hDm=>by rw [(hsum Dm hDm).1];exact (hsum Dm hDm).2,hqb⟩
 unfold YF
 have hd0:=(NH (Ei l (2 ^ n))).1
 by_cases hneg:FF l n<0
 ·rw [if_pos hneg]
  have e:FF l n = -1:=by
   have:-1≤FF l n:=hd0
   omega
  have cd':=cd
  have e':HT (Ei l (2 ^ n)) = -1:=e
  rw [e'] at cd'
  exact Wx l n cd'
 ·rw [if_neg hneg]
  obtain ⟨Dm,hDm⟩:∃ Dm:Nat,FF l n = Dm:=⟨(FF l n).toNat,by omega⟩
  rw [hDm,Int.toNat_natCast]
  have cd':=cd
  have e':HT (Ei l (2 ^ n)) = Dm:=hDm
  rw [e'] at cd'
  refine Wy l n Dm _ _ cd' (hcc Dm hDm) (by have:=hM (n - Dm);omega) fun j hj=>?_
  cases j with
  | zero=>show -9223372036854775808≤(0:Int)∧(0:Int)≤9223372036854775807;omega
  | succ j =>
   have h3:=(hB.sumn (n - Dm)).sum j (by have:=hM (n - Dm);omega)
   have h4:=hbg (n - Dm+1) (by omega)
   rw [Int.pow_succ,← Int.mul_assoc] at h4
   have h5:pS (Cr (n - Dm) f) j = Bv (j+1) (Cr (n - Dm) f):=rfl
   rw [h5] at h3
   omega
theorem QK (F : Nat→Rat):∀ n t,EJ F (LC F n) t = EJ F n t
 | 0,_=>rfl
 | n+1,t=>by
  rw [LC]
  split
  ·rename_i h
   rw [QK F n t]
   unfold EJ
   by_cases h1:t<n
   ·rw [if_pos h1,if_pos (by omega)]
   ·rw [if_neg h1]
    split
    ·obtain rfl : t = n := by omega
     exact h.symm
    ·rfl
  ·rfl
theorem YU (F G:Nat→Rat) (m k t:Nat):EJ (Jb F G m k) (max m k) t = EJ F m t+EJ G k t:=by
 have e0:Jb F G m k t = if t<k then EJ F m t+G t else EJ F m t:=by
  show (if 0≤t∧t<0+k then EJ F m t+q1*G (t - 0) else EJ F m t) = _
  have e1:q1*G (t - 0) = G t:=Rat.one_mul _
  rw [e1]
  by_cases h:t<k
  ·rw [if_pos ⟨Nat.zero_le _,by omega⟩,if_pos h]
  ·rw [if_neg (by omega),if_neg h]
 show (if t<max m k then Jb F G m k t else q0) = EJ F m t+if t<k then G t else q0
 rw [e0]
 by_cases h2:t<k
 ·rw [if_pos (by omega),if_pos h2,if_pos h2]
 ·rw [if_neg h2,if_neg h2]
  have e1:EJ F m t+q0 = EJ F m t:=Rat.add_zero _
  rw [e1]
  by_cases h1:t<max m k
  ·rw [if_pos h1]
  ·rw [if_neg h1]
   exact (if_neg (by omega)).symm
def Jj (f : Nat→Rat) (t:Nat):Rat:=if t = 0 then q0 else f (t - 1)
theorem OV (F G:Nat→Rat):∀ i t,HJ F G 2 i t = EJ F i t*G 0+Jj (EJ F i) t*G 1
 | 0,t=>by
  unfold HJ Jj EJ
  rw [if_neg (Nat.not_lt_zero _),if_neg (Nat.not_lt_zero _)]
  have e:(if t = 0 then q0 else q0) = q0:=by split <;> rfl
  rw [e]
  show (0:Rat) = 0*_+0*_
  rw [Rat.zero_mul,Rat.zero_mul,Rat.add_zero]
 | i+1,t=>by
  rw [HJ]
  unfold EE
  rw [OV F G i t]
  by_cases h:i≤t∧t<i+2
  ·rw [if_pos h]
   by_cases h2:t = i
   ·subst h2
    have e1:EJ F t t = 0:=if_neg (Nat.lt_irrefl t)
    have e2:EJ F (t+1) t = F t:=if_pos (Nat.lt_succ_self t)
    have e3:Jj (EJ F (t+1)) t = Jj (EJ F t) t:=by
     unfold Jj
     split
     ·rfl
     ·unfold EJ
      rw [if_pos (by omega),if_pos (by omega)]
    rw [e1,e2,e3,Nat.sub_self,Rat.zero_mul,Rat.zero_add,Rat.add_comm]
   ·obtain rfl : t = i + 1 := by omega
    have e1:EJ F i (i+1) = 0:=if_neg (by omega)
    have e2:EJ F (i+1) (i+1) = 0:=if_neg (by omega)
    have e3:Jj (EJ F (i+1)) (i+1) = F i:=by
     unfold Jj
     rw [if_neg (by omega),Nat.add_sub_cancel]
     exact if_pos (Nat.lt_succ_self i)
    have e4:Jj (EJ F i) (i+1) = 0:=by
     unfold Jj
     rw [if_neg (by omega),Nat.add_sub_cancel]
     exact if_neg (Nat.lt_irrefl i)
    rw [e1,e2,e3,e4,show i+1 - i = 1 by omega,Rat.zero_mul,Rat.zero_mul,Rat.zero_add,Rat.zero_add]
  ·rw [if_neg h]
   have e1:EJ F i t = EJ F (i+1) t:=by
    unfold EJ
    by_cases h3:t<i
    ·rw [if_pos h3,if_pos (by omega)]
    ·rw [if_neg h3,if_neg (by omega)]
   have e2:Jj (EJ F i) t = Jj (EJ F (i+1)) t:=by
    unfold Jj
    split
    ·rfl
    ·unfold EJ
     by_cases h3:t - 1<i
     ·rw [if_pos h3,if_pos (by omega)]
     ·rw [if_neg h3,if_neg (by omega)]
   rw [e1,e2]
def Nj (c : Rat) (j i:Nat):Nat→Rat:=EJ (pT c j i).2 (pT c j i).1
theorem Kx (c : Rat) (j t:Nat):Nj c j 0 t = if t = 0 then c else 0:=by
 unfold Nj pT EJ
 by_cases hc:c = 0
 ·rw [if_pos hc,if_neg (Nat.not_lt_zero t)]
  split
  ·exact hc.symm
  ·rfl
 ·rw [if_neg hc]
  by_cases ht:t = 0
  ·rw [if_pos ht,if_pos (by omega)]
  ·rw [if_neg ht, if_neg (by omega)]
   rfl
theorem Ky (c : Rat) (j i t:Nat):Nj c j (i+1) t = Nj c j i t*pG (i+1) j 0+Jj (Nj c j i) t*pG (i+1) j 1:=by
 unfold Nj
 rw [pT]
 by_cases h:(pT c j i).1 = 0
 ·rw [if_pos h]
  have e:∀ t,EJ (pT c j i).2 0 t = 0:=fun t=>if_neg (Nat.not_lt_zero t)
  have e2:Jj (EJ (pT c j i).2 0) t = 0:=by
   unfold Jj
   split
   ·rfl
   ·exact e _
  show EJ (pT c j i).2 0 t = _
  rw [h,e,e2,Rat.zero_mul,Rat.zero_mul,Rat.add_zero]
 ·rw [if_neg h]
  show EJ _ (LC _ _) t = _
  rw [QK]
  by_cases ht:t<(pT c j i).1+1
  ·refine Eq.trans (if_pos ht) ?_
   exact OV _ _ _ _
  ·have e0:∀ F:Nat→Rat,EJ F ((pT c j i).1+1) t = 0:=fun F=>if_neg ht
   have e1:EJ (pT c j i).2 (pT c j i).1 t = 0:=if_neg (by omega)
   have e2:Jj (EJ (pT c j i).2 (pT c j i).1) t = 0:=by
    unfold Jj
    rw [if_neg (by omega)]
    exact if_neg (by omega)
   rw [e0,e1,e2,Rat.zero_mul,Rat.zero_mul,Rat.add_zero]
def wF : Nat→Rat
 | 0=>1
 | i+1=>wF i*Rat.divInt 1 ((i+1:Nat):Int)
theorem Vl : ∀ i,wF i ≠ 0
 | 0=>by decide +kernel
 | i+1=>by
  rw [wF]
  intro h
  rcases Rat.mul_eq_zero.1 h with h | h
  ·exact Vl i h
  ·have h0:Rat.divInt 1 ((i+1:Nat):Int) = 1 / (((i+1:Nat):Int):Rat):=Rat.divInt_eq_div _ _
   have h3:((((i+1:Nat):Int)):Rat) ≠ 0:=fun e=>by
    have:((i+1:Nat):Int) = 0:=by exact_mod_cast e
    omega
   rw [h0,Rat.div_def,Rat.one_mul] at h
   have h4:=Rat.mul_inv_cancel _ h3
   rw [h,Rat.mul_zero] at h4
   exact absurd h4 (by decide +kernel)
theorem Iq (c : Rat) (j:Nat):∀ i t,i<t→Nj c j i t = 0
 | 0,t,h=>by rw [Kx,if_neg (by omega)]
 | i+1,t,h=>by
  have e:Jj (Nj c j i) t = 0:=by
   unfold Jj
   rw [if_neg (by omega)]
   exact Iq c j i _ (by omega)
  rw [Ky,Iq c j i t (by omega),e,Rat.zero_mul,Rat.zero_mul,Rat.add_zero]
theorem SC (c : Rat) (j:Nat):∀ i,Nj c j i i = c*wF i
 | 0=>by rw [Kx,if_pos rfl,wF,Rat.mul_one]
 | i+1=>by
  have e:Jj (Nj c j i) (i+1) = c*wF i:=by
   unfold Jj
   rw [if_neg (by omega),Nat.add_sub_cancel]
   exact SC c j i
  have e2:pG (i+1) j 1 = Rat.divInt 1 ((i+1:Nat):Int):=if_neg (by omega)
  rw [Ky,Iq c j i (i+1) (by omega),e,e2,Rat.zero_mul,Rat.zero_add,wF,Rat.mul_assoc]
def VH (q : Nat→Int) (Dg j:Nat):Nat→Rat:=EJ (pH q Dg j).2 (pH q Dg j).1
theorem OQ (q : Nat→Int) (Dg t:Nat):VH q Dg 0 t = 0:=by
 unfold VH pH EJ
 exact if_neg (Nat.not_lt_zero t)
theorem OR (q : Nat→Int) (Dg j t:Nat):VH q Dg (j+1) t = VH q Dg j t+Nj ((q j:Int):Rat) j (Dg - 1) t:=by
 unfold VH
 rw [pH]
 show EJ _ (LC _ _) t = _
 rw [QK,YU]
 rfl
theorem Nl (q : Nat→Int) (Dg:Nat):∀ j,VH q Dg j (Dg - 1) = ((Bv j q:Int):Rat)*wF (Dg - 1)
 | 0=>by
  rw [OQ]
  show (0:Rat) = ((0:Int):Rat)*_
  exact (Rat.zero_mul _).symm
 | j+1=>by
  rw [OR,Nl q Dg j,SC,← Rat.add_mul,Bv,Rat.intCast_add]
theorem A0c {q : Nat→Int} {Dg M:Nat} (hD:0<Dg) (h:Bv M q ≠ 0):(pH q Dg M).1 = Dg:=by
 have h1:=OS q hD M
 have h2:=Nl q Dg M
 rcases Nat.lt_or_ge (pH q Dg M).1 Dg with h3 | h3
 ·exfalso
  have h4:VH q Dg M (Dg - 1) = 0:=if_neg (by omega)
  rw [h4] at h2
  rcases Rat.mul_eq_zero.1 h2.symm with h5 | h5
  ·exact h (by exact_mod_cast h5)
  ·exact Vl _ h5
 ·omega
def sQ : Nat→(Nat→Rat)→Rat
 | 0,_=>0
 | n+1,f=>sQ n f+f n
theorem Ez : ∀ {n:Nat} {f g:Nat→Rat},(∀ t,t<n→f t = g t)→sQ n f = sQ n g
 | 0,_,_,_=>rfl
 | n+1,f,g,h=>by rw [sQ,sQ,Ez fun t ht=>h t (by omega),h n (Nat.lt_succ_self n)]
theorem QS (f g:Nat→Rat):∀ n,sQ n (fun t=>f t+g t) = sQ n f+sQ n g
 | 0=>(Rat.add_zero 0).symm
 | n+1=>by
  rw [sQ,sQ,sQ,QS f g n]
  grind
theorem Ks (f : Nat→Rat) (c:Rat):∀ n,sQ n (fun t=>f t*c) = sQ n f*c
 | 0=>(Rat.zero_mul c).symm
 | n+1=>by rw [sQ,sQ,Ks f c n,Rat.add_mul]
theorem Kt (f : Nat→Rat):∀ n,sQ (n+1) f = f 0+sQ n fun t=>f (t+1)
 | 0=>by
  show 0+f 0 = f 0+0
  rw [Rat.zero_add,Rat.add_zero]
 | n+1=>by
  rw [sQ,Kt f n,sQ,Rat.add_assoc]
theorem Ss : ∀ n,sQ n (fun _=>0) = 0
 | 0=>rfl
 | n+1=>by rw [sQ,Ss n,Rat.add_zero]
theorem Nd {f : Nat→Rat} {m:Nat} (h:∀ t,m≤t→f t = 0):∀ k,sQ (m+k) f = sQ m f
 | 0=>rfl
 | k+1=>by
  rw [← Nat.add_assoc,sQ,Nd h k,h _ (by omega),Rat.add_zero]
def JN (B : Nat) (c:Nat→Rat) (x:Rat):Rat:=sQ B fun t=>c t*x ^ t
theorem A0s (F : Nat→Rat) (n B:Nat) (x:Rat) (h:n≤B):JN n F x = JN B (EJ F n) x:=by
 unfold JN
 obtain ⟨k,rfl⟩:∃ k,B = n+k:=⟨B - n,by omega⟩
 rw [Nd fun t ht=>by
  have:EJ F n t = 0:=if_neg (by omega)
  rw [this,Rat.zero_mul]]
 exact Ez fun t ht=>by
  have:EJ F n t = F t:=if_pos ht
  rw [this]
theorem A0r {c : Nat→Rat} {x:Rat} {B:Nat} (h:∀ t,B≤t+1→c t = 0):JN B (Jj c) x = JN B c x*x:=by
 unfold JN
 cases B with
 | zero=>exact (Rat.zero_mul x).symm
 | succ B =>
  rw [Kt,sQ,h B (by omega),Rat.zero_mul,Rat.add_zero,← Ks]
  have e:Jj c 0*x ^ 0 = 0:=Rat.zero_mul _
  rw [e,Rat.zero_add]
  refine Ez fun t ht=>?_
  have e2:Jj c (t+1) = c t:=by
   unfold Jj
   rw [if_neg (by omega),Nat.add_sub_cancel]
  rw [e2,Rat.pow_succ,Rat.mul_assoc]
theorem A1E (a : Int) (t:Nat):Rat.divInt a ((t+1:Nat):Int) = (a:Rat) / (((t+1:Nat):Int):Rat):=Rat.divInt_eq_div _ _
theorem YL (t : Nat):((((t+1:Nat):Int)):Rat) ≠ 0:=fun e=>by
 have:((t+1:Nat):Int) = 0:=by exact_mod_cast e
 omega
theorem Yz (i e:Nat) (j:Nat):((wB (i+1) e:Int):Rat)*(pG (i+1) j 0+pG (i+1) j 1*(((j+e:Nat):Int):Rat)) = ((wB (i+2) e:Int):Rat):=by
 have h1:pG (i+1) j 0 = ((((i+1:Nat):Int) - (j:Int):Int):Rat) / (((i+1:Nat):Int):Rat):=A1E _ i
 have h2:pG (i+1) j 1 = ((1:Int):Rat) / (((i+1:Nat):Int):Rat):=A1E 1 i
 have h3:=(XO i).2 e
 have h4:=YL i
 have h5:(((i+1:Nat):Int):Rat)*((wB (i+2) e:Int):Rat) = (((e:Int)+i+1:Int):Rat)*((wB (i+1) e:Int):Rat):=by
  rw [← Rat.intCast_mul,← Rat.intCast_mul,← h3]
  rfl
 have h6:pG (i+1) j 0+pG (i+1) j 1*(((j+e:Nat):Int):Rat) = (((e:Int)+i+1:Int):Rat) / (((i+1:Nat):Int):Rat):=by
  rw [h1,h2,Rat.div_def,Rat.div_def,Rat.div_def]
  have h7:((((i+1:Nat):Int) - (j:Int):Int):Rat)+((1:Int):Rat)*(((j+e:Nat):Int):Rat) = (((e:Int)+i+1:Int):Rat):=by
   rw [← Rat.intCast_mul,← Rat.intCast_add]
   congr 1
   omega
  rw [← h7]
  grind
 rw [h6,Rat.div_def]
 have h8:=Rat.mul_inv_cancel _ h4
 have h9:((wB (i+2) e:Int):Rat) = (((i+1:Nat):Int):Rat)*((wB (i+2) e:Int):Rat)*(((i+1:Nat):Int):Rat)⁻¹:=by
  grind
 rw [h9,h5]
 grind
theorem Wp (c : Rat) (j e:Nat):∀ i B,i<B→JN B (Nj c j i) (((j+e:Nat):Int):Rat) = c*((wB (i+1) e:Int):Rat)
 | 0,B,h=>by
  rw [QF]
  have e1:JN B (Nj c j 0) (((j+e:Nat):Int):Rat) = JN 1 (Nj c j 0) (((j+e:Nat):Int):Rat):=by
   obtain ⟨k,rfl⟩:∃ k,B = 1+k:=⟨B - 1,by omega⟩
   exact Nd (fun t ht=>by rw [Iq c j 0 t (by omega),Rat.zero_mul]) k
  rw [e1]
  show 0+Nj c j 0 0*_ ^ 0 = _
  rw [Kx,if_pos rfl,Rat.zero_add,Rat.pow_zero]
  rfl
 | i+1,B,h=>by
  have h1:JN B (Nj c j (i+1)) (((j+e:Nat):Int):Rat) = JN B (Nj c j i) (((j+e:Nat):Int):Rat)*pG (i+1) j 0+JN B (Jj (Nj c j i)) (((j+e:Nat):Int):Rat)*pG (i+1) j 1:=by
   unfold JN
   rw [← Ks,← Ks,← QS]
   refine Ez fun t ht=>?_
   rw [Ky]
   grind
  have ih:=Wp c j e i B (by omega)
  rw [h1,A0r fun t ht=>Iq c j i t (by omega),ih,← Yz i e j]
  grind
theorem Wr (q : Nat→Int) (Dg:Nat) (hD:0<Dg) (d:Nat):∀ M,M≤d+1→JN Dg (VH q Dg M) ((d:Int):Rat) = ((Bv M (fun i=>q i*wB Dg (d - i)):Int):Rat)
 | 0,_=>by
  unfold JN
  rw [Ez (g:=fun _=>0) fun t _=>by rw [OQ,Rat.zero_mul],Ss]
  rfl
 | M+1,h=>by
  have h1:JN Dg (VH q Dg (M+1)) ((d:Int):Rat) = JN Dg (VH q Dg M) ((d:Int):Rat)+JN Dg (Nj ((q M:Int):Rat) M (Dg - 1)) ((d:Int):Rat):=by
   unfold JN
   rw [← QS]
   refine Ez fun t ht=>?_
   rw [OR,Rat.add_mul]
  have h2:=Wp ((q M:Int):Rat) M (d - M) (Dg - 1) Dg (by omega)
  rw [show M+(d - M) = d by omega,show Dg - 1+1 = Dg by omega] at h2
  rw [h1,Wr q Dg hD d M (by omega),h2,Bv,Rat.intCast_add,Rat.intCast_mul]
theorem Sl {f : Nat→Int} {m:Nat} (h:∀ t,m≤t→f t = 0):∀ k,Bv (m+k) f = Bv m f
 | 0=>rfl
 | k+1=>by
  rw [← Nat.add_assoc,Bv,Sl h k,h _ (by omega),Int.add_zero]
theorem YB (q : Nat→Int) (Dg M d:Nat) (hD:0<Dg) (hM:M≤d+1) (far:∀ i,M≤i→q i = 0):JN (pH q Dg M).1 (pH q Dg M).2 ((d:Int):Rat) = ((Cr Dg q d:Int):Rat):=by
 rw [A0s _ _ Dg _ (OS q hD M)]
 have h:=Wr q Dg hD d M hM
 have e:Bv M (fun i=>q i*wB Dg (d - i)) = Cr Dg q d:=by
  rw [SF]
  unfold ZY
  obtain ⟨k,hk⟩:∃ k,d+1 = M+k:=⟨d+1 - M,by omega⟩
  rw [hk,Sl fun t ht=>by rw [far t ht,Int.zero_mul]]
 rw [e] at h
 exact h
def gH (F : Nat→Rat) (x:Rat):Nat→Nat→Rat
 | _,0=>((0:Int):Rat)
 | m,k+1=>gH F x (m+1) k*x+F m
theorem ZT (F : Nat→Rat) (x:Rat):∀ k m,gH F x m k = sQ k fun t=>F (m+t)*x ^ t
 | 0,_=>rfl
 | k+1,m=>by
  rw [gH,ZT F x k (m+1),Kt,← Ks]
  have e:F (m+0)*x ^ 0 = F m:=by rw [Rat.pow_zero,Rat.mul_one,Nat.add_zero]
  rw [e,Rat.add_comm]
  congr 1
  refine Ez fun t ht=>?_
  rw [Rat.pow_succ,show m+1+t = m+(t+1) by omega,Rat.mul_assoc]
theorem A0q (F : Nat→Rat) (x:Rat) (n:Nat):gH F x 0 n = JN n F x:=by
 rw [ZT]
 exact Ez fun t _=>by rw [Nat.zero_add]
theorem Sh (j : Nat):∀ (k i:Nat),Jf k i (fun t=>decide (t = j)) = if i≤j∧j<i+k then 1 else 0
 | 0,i=>by rw [if_neg (by omega)];rfl
 | k+1,i=>by
  rw [Jf,Sh j k (i+1)]
  by_cases e:i = j
  ·subst e
   rw [if_pos (by simp),if_neg (by omega),if_pos (by omega)]
  ·rw [if_neg (by simpa using e)]
   by_cases h:i≤j∧j<i+(k+1)
   ·rw [if_pos h,if_pos (by omega)]
   ·rw [if_neg h,if_neg (by omega)]
theorem Vt {l : Af} {n E:Nat} (hn:n≤8) (h2:∀ y∈l,SupN n y) (hE:∀ a∈l,∀ j,j<8→a j≤(E:Int)+1) (hd:FF l n≤0) (x:Nat→Int) (hx:StdX l n x) (j:Nat) (hj:j<8):x j≤E:=by
 by_cases hjn:j<n
 ·have hno:¬ Lw n 0 l (fun t=>decide (t = j)):=fun h=>by
   have:=(NG hn h2).1 _ h
   rw [Sh,if_pos (by omega)] at this
   have:(1:Int)≤FF l n:=this
   omega
  obtain ⟨a,h⟩:=Classical.not_forall.1 hno
  obtain ⟨ha,h⟩:=Classical.not_imp.1 h
  have hai:∀ i,i<n→i ≠ j→a i≤0:=fun i hi hne=>by
   refine Classical.byContradiction fun hc=>h ⟨i,Nat.zero_le i,by omega,by simpa using hne,by omega⟩
  have hnd:¬ Dv a x:=fun hdv=>by
   have:=Da.2 ⟨a,ha,hdv⟩
   rw [hx.2] at this
   cases this
  obtain ⟨i,hi⟩:=Classical.not_forall.1 hnd
  obtain ⟨hi8,hi⟩:=Classical.not_imp.1 hi
  have hx0:=(hx.1 i hi8).1
  by_cases e:i = j
  ·subst e
   have:=hE a ha i hi8
   omega
  ·by_cases hin:i<n
   ·have:=hai i hin e
    omega
   ·have := (h2 a ha i hi8).2 (by omega)
    omega
 ·rw [(hx.1 j hj).2 (by omega)]
  omega
theorem XT {l : Af} {n B:Nat} (hn:n≤8) (hB:∀ x,StdX l n x→CK n 0 x<B):(∀ x,MemE x (LG l n B)↔StdX l n x)∧(LG l n B).Pairwise fun a b=>¬ Eqv a b:=by
 have hst:∀ {m:Nat→Int},m∈LG l n B→StdX l n m:=fun {m} h=>by
  obtain ⟨h1,_,h3⟩:=GE.1 h
  exact ⟨fun j hj=>⟨h1.1 j,fun h=>h1.2 j (by omega)⟩,h3⟩
 refine ⟨fun x=>⟨fun ⟨a,ha,e⟩=>(hst ha).congr e,fun hx=>?_⟩,?_⟩
 ·have hc:=hx.congr (IB x).symm
  refine ⟨fun j=>if j<n then FX x j else 0,GE.2 ⟨⟨fun j=>?_,fun j hj=>?_⟩,?_,?_⟩,fun j hj=>?_⟩
  ·show 0≤if j<n then FX x j else 0
   split
   ·by_cases h8:j<8
    ·exact (hc.1 j h8).1
    ·unfold FX
     rw [if_neg h8]
     omega
   ·omega
  ·show (if j<n then FX x j else 0) = 0
   rw [if_neg (by omega)]
  ·rw [JP (m' := FX x) fun j _ hj => if_pos (by omega)]
   exact hB _ hc
  ·have e:Eqv x fun j=>if j<n then FX x j else 0:=fun j hj=>by
    show x j = if j<n then FX x j else 0
    split
    ·exact (IB x j hj).symm
    ·exact (hx.1 j hj).2 (by omega)
   exact (hx.congr e).2
  ·show (if j<n then FX x j else 0) = x j
   split
   ·exact IB x j hj
   ·exact ((hx.1 j hj).2 (by omega)).symm
 ·refine List.Pairwise.imp_of_mem ?_ (Kh l n B)
  intro a b ha hb hne e
  refine hne (funext fun j=>?_)
  by_cases h8:j<8
  ·exact e j h8
  ·obtain ⟨h1,_,_⟩:=GE.1 ha
   obtain ⟨h2,_,_⟩:=GE.1 hb
   rw [h1.2 j (.inr (by omega)),h2.2 j (.inr (by omega))]
theorem Yy {l : Af} {n d:Nat} (h:∀ x,StdX l n x→CK n 0 x ≠ d):hN n d l = 0:=by
 rw [← Pu,Nw]
 have:(rM n 0 d).filter (fun m => !inB l m) = []:=by
  rw [List.filter_eq_nil_iff]
  intro m hm hi
  obtain ⟨h1,h2⟩:=Gd.1 hm
  exact h m ⟨fun j hj=>⟨h1.1 j,fun h=>h1.2 j (by omega)⟩,by simpa using hi⟩ h2
 rw [this]
 rfl
theorem Vq {p : Nat→Int} {M B:Nat} (hM:∀ i,M≤i→p i = 0) (hB:∀ i,B≤i→p i = 0):Bv M p = Bv B p:=(show FS p B (Bv B p) from ⟨hB,rfl⟩).sum_eq hM
theorem MA {l K:Af} {n N B:Nat} {f:Nat→Int} (hc:HilC l n N f) (hn:n≤8) (h2:∀ y∈l,SupN n y) (hd:FF l n≤0) (hK:∀ x,MemE x K↔StdX l n x) (hp:K.Pairwise fun a b=>¬ Eqv a b) (hB:∀ x,StdX l n x→CK n 0 x<B):YF l n N f = ((K.length:Nat):Int):=by
 rw [TI hn hK hp hB]
 have hz:∀ i,B≤i→hN n i l = 0:=fun i hi=>Yy fun x hx e=>by
  have:=hB x hx
  omega
 have hnum:∀ d,Cr n f d = hN n d l:=fun d=>hc.num.num n hn h2 d
 have hge:-1≤FF l n:=(NH _).1
 by_cases h0:FF l n = 0
 ·have h1:FF l n = ((0:Nat):Int):=h0
  unfold YF
  rw [if_neg (by omega),h0]
  show Bv (cN N f (n - 0)).1 (Cr (n - 0) f) = _
  have h3:=hc.far 0 h1
  have e:Cr (n - 0) f = fun d=>hN n d l:=by rw [Nat.sub_zero];exact funext hnum
  rw [e] at h3 ⊢
  exact Vq h3 hz
 ·have h1 : FF l n = -1 := by omega
  unfold YF
  rw [if_pos (by omega)]
  obtain ⟨c,hs⟩:=Np hn h2 hc.num.num
  rcases hs with ⟨_,_,h3⟩ | ⟨m,_,_,h3,_⟩
  ·refine (CG fun d _=>?_).symm
   rw [← hnum,h3]
  ·have h3:FF l n = (m:Int):=h3
   omega
theorem XS {l : Af} {n N E:Nat} {f:Nat→Int} (hc:HilC l n N f) (hn:n≤8) (h2:∀ y∈l,SupN n y) (hE:∀ a∈l,∀ j,j<8→a j≤(E:Int)+1) (hd:FF l n≤0):(∀ S,IsStd l n S→YF l n N f = ((S.length:Nat):Int))∧YF l n N f≤(((E+1) ^ n:Nat):Int):=by
 have hb:=Vt hn h2 hE hd
 have hB:∀ x,StdX l n x→CK n 0 x<n*E+1:=fun x hx=>by
  have:=Rj (x:=x) (B:=E) n 0 fun j _ h=>hb x hx j (by omega)
  omega
 have hpw:∀ S,IsStd l n S→S.Pairwise fun a b=>¬ Eqv a b:=fun S hS=>hS.1.imp fun {a b} h e=>by
  rw [Gg.2 e] at h
  exact absurd h (by decide)
 refine ⟨fun S hS=>MA hc hn h2 hd hS.2 (hpw S hS) hB,?_⟩
 obtain ⟨g1,g2⟩:=XT hn hB
 rw [MA hc hn h2 hd g1 g2 hB]
 have:=Sn hn (fun x hx=>(g1 x).1 ⟨x,hx,Eqv.refl x⟩) g2 hb
 exact_mod_cast this
theorem WR {l : Af} {n N E:Nat} {f:Nat→Int} (hc:HilC l n N f) (hn:n≤8) (hl:l.length≤1000) (h2:∀ y∈l,SupN n y) (hE:∀ a∈l,∀ j,j<8→a j≤(E:Int)+1) (hE2:E≤1000) (hd:FF l n≤0) (hbox:(E+1) ^ n≤1000):Abs Tryz.prog 28 [BW l,ex (.int .i64 (n:Nat))] (DM [Ot (IsStd l n) BW,ex (.int .i64 0)]):=by
 have hb:=Vt hn h2 hE hd
 refine Uz l n E _ _ hn hl hb hE2 (fun K hK hp=>?_) hd ?_ hc.ck hc.cd hc.cg
 ·have:=Sn hn (fun x hx=>(hK x).1 ⟨x,hx,Eqv.refl x⟩) hp hb
  omega
 ·have:=(XS hc hn h2 hE hd).2
  omega
theorem IsStd.same {l : Af} {n:Nat} {S S':Af} (h:IsStd l n S) (h':IsStd l n S'):BW S = BW S':=by
 have hd:∀ {S:Af},(S.Pairwise fun a b=>lx a b<0)→WT S.reverse:=fun {S} h=>by
  unfold WT
  rw [List.pairwise_reverse]
  refine h.imp fun {a b} h=>?_
  rw [Et]
  omega
 have hm:∀ (S:Af) x,MemE x S.reverse↔MemE x S:=fun S x=>⟨fun ⟨a,ha,e⟩=>⟨a,List.mem_reverse.1 ha,e⟩,fun ⟨a,ha,e⟩=>⟨a,List.mem_reverse.2 ha,e⟩⟩
 have hs:=IR (hd h.1) (hd h'.1) fun x=>(hm S x).trans ((h.2 x).trans ((h'.2 x).symm.trans (hm S' x).symm))
 have key:∀ {l l':Af},SameM l l'→l.map Ba = l'.map Ba:=by
  intro l
  induction l with
  | nil =>
   intro l' h
   cases l' with
   | nil=>rfl
   | cons b l'=>exact h.elim
  | cons a l ih =>
   intro l' h
   cases l' with
   | nil=>exact h.elim
   | cons b l'=>rw [List.map_cons,List.map_cons,OW h.1,ih h.2]
 have h3:=congrArg List.reverse (key hs)
 rw [List.map_reverse,List.map_reverse,List.reverse_reverse,List.reverse_reverse] at h3
 rw [BW,BW,h3]
end Go.Proofs.YtialdhnijjnpaaaGreat
