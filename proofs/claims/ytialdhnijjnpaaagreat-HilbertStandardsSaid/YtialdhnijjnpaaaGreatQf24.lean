/- Part 24 of the proof of hilbertStandards_holds. No condition. -/
import Derived.Test.YtialdhnijjnpaaaGreatQf21
import Derived.Test.YtialdhnijjnpaaaGreatQf23
set_option linter.unusedSimpArgs false
set_option linter.unusedVariables false
set_option maxRecDepth 100000
set_option maxHeartbeats 4000000
namespace Go.Proofs.YtialdhnijjnpaaaGreat
open Go.RowKit
theorem OJ (n : Nat) (hn:3≤n) (g:Nat) (lb:Array Value) (eg:∀ args w,(callFunc g args).run Tryz.prog w = .ok (.enter g args) w)
  (S:List (Nat→Int)→Prop) (N:Nat) (hN:N≤1000000000) (w:World) (hseq:SeqGives Fence.wide (n - 1 - 1) Tryz.prog g lb Li S N w) :
  CallsIn Fence.wide n Tryz.prog 123 #[.func (.func g) #[] lb] w fun e w'=>∃ (v:Value) (ss:List (Nat→Int)),e = .returned v∧S ss∧w'.ownsRow w.heap.size 55 8 v ss.length (FL ss)∧Below w.heap.size w w':=by
 have h1:1≤n:=by omega
 have hf147:Fence.wide.fn 147:=trivial
 have e11:∀ args w,(callFunc 147 args).run Tryz.prog w = .ok (.enter 147 args) w:=As Tryz.func147 (by kernel_rfl) (by kernel_rfl)
 refine callsIn_of_wp Tryz.func123 rfl trivial ?_
 simp only [Tryz.ntmps123,List.size_toArray,List.length_cons,List.length_nil,Nat.reduceAdd,Nat.reduceSub,Array.replicate_succ,Array.replicate_zero,List.push_toArray,List.append_toArray,List.nil_append,List.cons_append]
 gi_wp2_with (gi_at_call 147;refine (Lj (n - 1) (by omega) g lb eg S N hN _ hseq).mono ?_;rintro e w' ⟨v,ss,rfl,hS,hrow,hb⟩)
 go_ret
 exact ⟨v,ss,rfl,hS,hrow,hb⟩
theorem Oi (n : Nat) (hn:1≤n) (Bm b clock:Nat) (es:Array MapEntry) (K:List (Nat→Int)) (w:World) (hBm:Bm<w.heap.size) (hm:w.cell? ⟨Bm,0,none⟩ = some (.map (some b))) (hb:w.heap[b]? = some (.map es clock)) (hkeys:es.toList.map (·.key) = K.map Li) (hborn:∀ x∈es.toList,x.born<clock) (hnd:(es.toList.map (·.born)).Nodup) :
  SeqGives Fence.wide n Tryz.prog 125 #[.pointer (some ⟨Bm,0,none⟩)] Li (fun ss=>ss.Perm K) K.length w:=fun l J W hW hJ hY h0 =>
 SD n hn l Bm b clock es K J hY W hJ ((hW.cell (p:=⟨Bm,0,none⟩) hBm).trans hm) ((hW.block b (At hb)).trans hb) hkeys hborn hnd h0
abbrev Hk (E : List KD):Af:=E.map (·.1)
theorem UQ (ss : Af) {i j:Nat} (hi:i<ss.length) (hj:j<8):(FL ss)[i*8+j]? = some (.int .i64 (AC ss i j)):=by
 induction ss generalizing i with
 | nil=>simp at hi
 | cons a ss ih =>
  have e:FL (a :: ss) = (c8 a).toList ++ FL ss:=rfl
  have hl:(c8 a).toList.length = 8:=rfl
  cases i with
  | zero =>
   rw [e,Nat.zero_mul,Nat.zero_add,List.getElem?_append_left (by omega)]
   have:j = 0∨j = 1∨j = 2∨j = 3∨j = 4∨j = 5∨j = 6∨j = 7:=by omega
   rcases this with rfl | rfl | rfl | rfl | rfl | rfl | rfl | rfl <;> rfl
  | succ i =>
   rw [e,List.getElem?_append_right (by omega),hl,show (i+1)*8+j - 8 = i*8+j by omega]
   exact ih (by simpa using hi)
abbrev KZ : TypeId:=96
theorem LU (E : List KD) (hE:E.length≤1000000):Con Tryz.prog 123 [.fn 125 [0]] [.var KZ [.own 1],.obj (Dl E)] []
  (fun r hp'=>∃ ss:Af,ss.Perm (Hk E)∧((ss = []∧r = .d (BF [])∧hp' = [.var KZ [.own 1],.obj (Dl E)])∨∃ g c,0<ss.length∧ss.length≤c∧c≤9223372036854775807∧r = .d (sX g ss.length c)∧hp' = [.var KZ [.own 1],.obj (Dl E),.obj (Bj [⟨g,55,En ss⟩])])):=by
 refine ⟨As Tryz.func123 (by kernel_rfl) (by kernel_rfl),fun s ρ vs hok hhp hsep hl hv=>?_⟩
 obtain ⟨_,e1⟩:=hv 0 _ rfl
 have hvar:=hhp 0 _ rfl
 obtain ⟨Bm,cs0,hρ0,_,hB,hsz0,_,hnS0,hcell0⟩:=hvar
 obtain ⟨u0,hu0,_,_,hu1⟩:=hcell0 0 _ rfl
 obtain ⟨b,hρ1,⟨es,clock,hb,hkeys,hvals,hborn,hnd,hpw⟩⟩:=hhp 1 _ rfl
 have evs:vs.toArray = #[.func (.func 125) #[] #[.pointer (some ⟨Bm,0,none⟩)]]:=by
  match vs,hl with
  | [a],_ =>
   have e1:a = _:=e1
   rw [e1,List.map_cons,List.map_nil,hρ0]
 have hm:s.w.cell? ⟨Bm,0,none⟩ = some (.map (some b)):=by
  rw [AO hB,hu0,hu1,hρ1]
 have hkeys':es.toList.map (·.key) = (Hk E).map Li:=by
  rw [hkeys,List.map_map]
  rfl
 have hseq:=Oi 1 (Nat.le_refl 1) Bm b clock es (Hk E) s.w (At hB) hm hb hkeys' hborn hnd
 have hcon:=(OJ 3 (Nat.le_refl 3) 125 #[.pointer (some ⟨Bm,0,none⟩)] (As Tryz.func125 (by kernel_rfl) (by kernel_rfl)) (fun ss=>ss.Perm (Hk E)) (Hk E).length (by rw [List.length_map];omega) s.w hseq)
 rw [evs]
 refine (callsIn_wide.1 hcon).mono ?_
 rintro e w' ⟨v,ss,rfl,hperm,⟨hlen,hown⟩,hbel⟩
 have hBl:=At hB
 have hbl:=At hb
 by_cases h0:ss = []
 ·subst h0
  let s':GS:=s.grown w'
  have hext:Ext s.w w':=⟨hbel.os,hbel.tape,hbel.output,hbel.size,fun k hk=>hbel.block k hk⟩
  have hle:GS.Le s s':=EH hext
  have hvd:(BF []).rel s' v:=by
   rcases hown with ⟨rfl,_⟩ | ⟨g,cap,cur,rfl,h1,h2,h3,h4,h5,h6⟩
   ·exact slD.nil _ _ _
   ·exact ⟨_,cap,rfl,Nat.zero_le _,by simpa [maxLen] using h4,fun h=>absurd h (by simp)⟩
  refine ⟨v,rfl,s',ρ,.d (BF []),[.var KZ [.own 1],.obj (Dl E)],⟨[],hperm,.inl ⟨rfl,rfl,rfl⟩⟩,rfl,hvd,⟨⟨hle.ext.os,hle.ext.tape,hle.ext.output,fun k hk _=>hle.ext.block hk,hle.chg,fun b k hb _=>hle.old b k hb,hle.tag,hle.ok⟩,hle.ok hok,fun i o hi=>(hhp i o hi).le hle,fun i j o o' hij hi hj b hbi hbj=>hsep i j o o' hij hi hj b (OwB.le (hhp i o hi) hle hbi) (OwB.le (hhp j o' hj) hle hbj),fun i o b hi hb=>.inl ⟨i,o,hi,OwB.le (hhp i o hi) hle hb⟩,fun _ _ _=>rfl,Nat.le_refl _⟩⟩
 ·have hpos:0<ss.length:=List.length_pos_iff.2 h0
  obtain ⟨g,cap,cur,rfl,hg0,hg,hc1,hc2,hcs,htake⟩:∃ g cap cur,v = .slice (some ⟨g,0,none⟩) ss.length cap∧s.w.heap.size≤g∧w'.heap[g]? = some (.cells cur 55 (0,0))∧ss.length≤cap∧cap≤maxLen∧cur.size = cap*8∧cur.toList.take (ss.length*8) = FL ss:=by
   rcases hown with ⟨_,h⟩ | h
   ·omega
   ·exact h
  let s':GS:=⟨fun b k=>s.S b k∨(s.w.heap.size≤b∧b<w'.heap.size∧b ≠ g),s.tag,w'⟩
  have hchg:GS.Chg s s':=⟨hbel.size,fun _ _ h=>.inl h,fun b cs T fz hb=>⟨cs,fz,(hbel.block b (At hb)).trans hb,fun _ _=>rfl⟩⟩
  have hok':s'.Ok:=⟨fun b k hb=>hb.elim (fun h=>Nat.lt_of_lt_of_le (hok.lt b k h) hbel.size) fun h=>h.2.1,fun b k ⟨c2,fz,hb⟩=>by
   have hb:w'.heap[b]? = some (.cells c2 136 fz):=hb
   rcases Nat.lt_or_ge b s.w.heap.size with h1 | h1
   ·exact .inl (hok.safe b k ⟨c2,fz,(hbel.block b h1).symm.trans hb⟩)
   ·refine .inr ⟨h1,At hb,fun e=>?_⟩
    subst e
    rw [hg] at hb
    exact absurd (Obj.cells.inj (Option.some.inj hb)).2.1 (by decide)⟩
  have hold:∀ b k,b<s.w.heap.size→s'.S b k→s.S b k:=fun b k hb h=>h.elim (fun h=>h) fun h=>absurd hb (by omega)
  have hfar:∀ i o,[Ow.var KZ [.own 1],.obj (Dl E)][i]? = some o→∀ b,OwB s (ρ i) o b→s'.w.heap[b]? = s.w.heap[b]? ∧ ∀ k,s'.S b k↔s.S b k:=fun i o hi b hbo=>by
   have hlt:=(hhp i o hi).blk_lt0 hbo
   exact ⟨hbel.block b hlt,fun k=>⟨hold b k hlt,.inl⟩⟩
  have hback:∀ i o,[Ow.var KZ [.own 1],.obj (Dl E)][i]? = some o→∀ b,OwB s' (ρ i) o b→OwB s (ρ i) o b:=fun i o hi b hb=>OwB.keep (hhp i o hi) hchg (hfar i o hi) hb
  have hget:∀ i o,[Ow.var KZ [.own 1],.obj (Dl E),.obj (Bj [⟨g,55,En ss⟩])][i]? = some o→(i<2∧[Ow.var KZ [.own 1],.obj (Dl E)][i]? = some o)∨(i = 2∧o = .obj (Bj [⟨g,55,En ss⟩])):=fun i o hi=>by
   match i,hi with
   | 0,hi=>exact .inl ⟨by omega,hi⟩
   | 1,hi=>exact .inl ⟨by omega,hi⟩
   | 2,hi=>cases hi;exact .inr ⟨rfl,rfl⟩
  have hown2:∀ b,OwB s' (ρ 2) (.obj (Bj [⟨g,55,En ss⟩])) b→b = g:=fun b ⟨x,hx,e⟩=>by
   rw [List.mem_singleton.1 hx] at e
   exact e.symm
  refine ⟨_,rfl,s',ρ,.d (sX g ss.length cap),[.var KZ [.own 1],.obj (Dl E),.obj (Bj [⟨g,55,En ss⟩])],⟨ss,hperm,.inr ⟨g,cap,hpos,hc1,by simpa [maxLen] using hc2,rfl,rfl⟩⟩,rfl,rfl,⟨⟨hbel.os,hbel.tape,hbel.output,fun k hk _=>hbel.block k hk,hchg,fun b k hb _=>hold b k hb,fun _ _=>rfl,fun _=>hok'⟩,hok',fun i o hi=>?_,fun i j o o' hij hi hj b hbi hbj=>?_,fun i o b hi hb=>?_,fun _ _ _=>rfl,by simp⟩⟩
  ·rcases hget i o hi with ⟨h2,hi⟩ | ⟨rfl,rfl⟩
   ·exact ((hhp i o hi).keep hchg (hfar i o hi)).mono (by simp) (fun _ _=>rfl) h2
   ·refine ⟨fun x hx => ?_, by simp⟩
    rw [List.mem_singleton.1 hx]
    refine ⟨(by decide:(55:TypeId) ≠ 136),fun k hk=>hk.elim (fun h=>absurd (hok.lt g k h) (by omega)) fun h=>h.2.2 rfl,cur,hg,?_,fun k hk=>?_⟩
    ·show (En ss).length≤_
     rw [De,hcs]
     exact Nat.mul_le_mul_right 8 hc1
    ·have hk:k<(En ss).length:=hk
     rw [De] at hk
     have e5:By (En ss) k = ex (.int .i64 (AC ss (k / 8) (k % 8))):=by
      have:=II ss (i:=k / 8) (j:=k % 8) (by omega) (by omega)
      rwa [show k / 8*8+k % 8 = k by omega] at this
     have e6:cur[k]? = some (.int .i64 (AC ss (k / 8) (k % 8))):=by
      have h7:=UQ ss (i:=k / 8) (j:=k % 8) (by omega) (by omega)
      rw [show k / 8*8+k % 8 = k by omega,← htake,List.getElem?_take,if_pos (by omega)] at h7
      simpa using h7
     exact ⟨_,e6,rfl,by show (By (En ss) k).rel s' _;rw [e5];rfl⟩
  ·rcases hget i o hi with ⟨h2,hi⟩ | ⟨rfl,rfl⟩
   ·rcases hget j o' hj with ⟨h3,hj⟩ | ⟨rfl,rfl⟩
    ·exact hsep i j o o' hij hi hj b (hback i o hi b hbi) (hback j o' hj b hbj)
    ·have:=(hhp i o hi).blk_lt0 (hback i o hi b hbi)
     have:=hown2 b hbj
     omega
   ·rcases hget j o' hj with ⟨h3,hj⟩ | ⟨rfl,rfl⟩
    ·have:=(hhp j o' hj).blk_lt0 (hback j o' hj b hbj)
     have:=hown2 b hbi
     omega
    ·exact absurd rfl hij
  ·rcases hget i o hi with ⟨h2,hi⟩ | ⟨rfl,rfl⟩
   ·exact .inl ⟨i,o,hi,hback i o hi b hb⟩
   ·exact .inr (by have:=hown2 b hb;omega)
theorem HG {P : Program} {f:FuncId} {fn:Func} {c:Code} {args:List AV} {Q:AV→List Ow→Prop} (hf:P.funcs[f]? = some fn) (hb:fn.body = some c) (hcf:∀ args w,(callFunc f args).run P w = .ok (.enter f args) w) (hn:Nat.ble args.length fn.ntmps = true) {o0 o1 o2 o3 o4:Ow} (h:∀ (s0:An) (v0 v1 v2 v3 v4:Value),AWp P s0 fn.ntmps c (FinC P fn [] [v0,v1,v2,v3,v4] Q) ⟨Fm 0 args,[o0,o1,o2,o3,o4,.pin [(v0,.own 0),(v1,.own 1),(v2,.own 2),(v3,.own 3),(v4,.own 4)]]⟩):Con P f args [o0,o1,o2,o3,o4] [] Q :=
 Ge hf hb hcf hn fun s0 vs hv=>by
  match vs,hv with
  | [v0,v1,v2,v3,v4],_=>exact h s0 v0 v1 v2 v3 v4
theorem SU : Con Tryz.prog 123 [.fn 125 [0]] [.var KZ [.own 1],.obj (Dl [])] [] (fun r hp'=>r = .d (BF [])∧hp' = [.var KZ [.own 1],.obj (Dl [])]):=by
 refine (LU [] (by decide)).mono fun r hp' ⟨ss,hp,h⟩=>?_
 have h0:ss = []:=hp.eq_nil
 rcases h with ⟨_,h1,h2⟩ | ⟨g,c,h1,_⟩
 ·exact ⟨h1,h2⟩
 ·subst h0
  exact absurd h1 (by decide)
theorem ST (E : List KD) (h0:0<E.length) (hE:E.length≤1000000):Con Tryz.prog 123 [.fn 125 [0]] [.var KZ [.own 1],.obj (Dl E)] [] (fun r hp'=>∃ (ss:Af) (g c:Nat),ss.Perm (Hk E)∧ss.length≤c∧c≤9223372036854775807∧r = .d (sX g ss.length c)∧hp' = [.var KZ [.own 1],.obj (Dl E),.obj (Bj [⟨g,55,En ss⟩])]):=by
 refine (LU E hE).mono fun r hp' ⟨ss,hp,h⟩=>?_
 rcases h with ⟨h1,_,_⟩ | ⟨g,c,h1,h2,h3,h4,h5⟩
 ·subst h1
  have:=hp.length_eq
  rw [List.length_map] at this
  simp at this
  omega
 ·exact ⟨ss,g,c,hp,h2,h3,h4,h5⟩
theorem Ny (E : List KD) (hE:E.length≤1000000):Con Tryz.prog 72 [.fn 125 [0],.d (ex (.func (.func 74) #[] #[]))] [.var KZ [.own 1],.obj (Dl E)] [] (fun r hp'=>∃ (S:Af) (tl:List Ow),S.Perm (Hk E)∧(S.Pairwise fun a b=>lx a b≤0)∧r = .d (BF S)∧hp' = [.var KZ [.own 1],.obj (Dl E),.dead] ++ tl∧(tl = []∨tl = [.dead])):=by
 by_cases h0:E = []
 ·subst h0
  refine HH Tryz.func72 rfl (As Tryz.func72 (by kernel_rfl) (by kernel_rfl)) rfl fun s0 pv0 pv1=>?_
  rw [Tryz.ntmps72]
  refine Y1<|Wa<|Y0<|Y1<|Wm ?_
  refine Bi [0,1] [] (SU) (by first | exact Or.inl rfl | exact Or.inr ⟨by decide,rfl,by repeat (first | exact AvoidR.nil | refine AJ rfl ?_ | refine AvoidR.dead ?_ | refine AP ?_ | refine AvoidR.obj ?_ | refine AH ?_ | refine AI rfl ?_ | refine AvoidR.pin rfl ?_)⟩) rfl rfl (by first | exact .inl ⟨rfl,rfl⟩ | exact .inr ⟨rfl,rfl⟩) (by repeat (first | exact ArgsC.nil | refine ArgsC.d rfl (D.le.refl _) ?_ | refine AZ rfl rfl ?_)) (by decide) (by repeat (first | exact SelR.nil | refine SelR.var rfl ?_ | refine SelR.obj rfl ?_ | refine Bh rfl ?_ | refine Ba rfl rfl rfl ?_)) (by repeat (first | exact trivial | refine ⟨⟨_,_,rfl⟩,?_⟩)) rfl ?_
  rintro _ _ ⟨rfl,rfl⟩
  refine ⟨_,_,_,(by first | exact AVRen.d | exact AVRen.own rfl | exact AVRen.ptr rfl | exact AVRen.fn rfl),(by repeat (first | exact SetR.nil | (apply SetR.cons;(first | exact OwRen.dead | exact Aj | exact OwRen.obj | exact Ao | exact Ak rfl);exact rfl))),(by repeat (first | exact AppR.nil | (apply AppR.cons;(first | exact OwRen.dead | exact Aj | exact OwRen.obj | exact Ao | exact Ak rfl);exact rfl))),?_⟩
  try simp only [Be,Bo]
  refine Wa<|Y0<|Y1<|Wm<|Wm ?_;refine Wq (Am (Lz)) ?_;refine Y0<|Y1<|Wm<|Wa<|Y0 ?_;apply Aw
  refine Bk (RetsA.one rfl) rfl ?_ rfl
  exact ⟨[],[],List.Perm.refl _,List.Pairwise.nil,rfl,rfl,.inl rfl⟩
 ·have hpos:0<E.length:=List.length_pos_iff.2 h0
  refine HH Tryz.func72 rfl (As Tryz.func72 (by kernel_rfl) (by kernel_rfl)) rfl fun s0 pv0 pv1=>?_
  rw [Tryz.ntmps72]
  refine Y1<|Wa<|Y0<|Y1<|Wm ?_
  refine Bi [0,1] [] (ST E hpos hE) (by first | exact Or.inl rfl | exact Or.inr ⟨by decide,rfl,by repeat (first | exact AvoidR.nil | refine AJ rfl ?_ | refine AvoidR.dead ?_ | refine AP ?_ | refine AvoidR.obj ?_ | refine AH ?_ | refine AI rfl ?_ | refine AvoidR.pin rfl ?_)⟩) rfl rfl (by first | exact .inl ⟨rfl,rfl⟩ | exact .inr ⟨rfl,rfl⟩) (by repeat (first | exact ArgsC.nil | refine ArgsC.d rfl (D.le.refl _) ?_ | refine AZ rfl rfl ?_)) (by decide) (by repeat (first | exact SelR.nil | refine SelR.var rfl ?_ | refine SelR.obj rfl ?_ | refine Bh rfl ?_ | refine Ba rfl rfl rfl ?_)) (by repeat (first | exact trivial | refine ⟨⟨_,_,rfl⟩,?_⟩)) rfl ?_
  rintro _ _ ⟨ss,g,c,hperm,hc1,hc2,rfl,rfl⟩
  refine ⟨_,_,_,(by first | exact AVRen.d | exact AVRen.own rfl | exact AVRen.ptr rfl | exact AVRen.fn rfl),(by repeat (first | exact SetR.nil | (apply SetR.cons;(first | exact OwRen.dead | exact Aj | exact OwRen.obj | exact Ao | exact Ak rfl);exact rfl))),(by repeat (first | exact AppR.nil | (apply AppR.cons;(first | exact OwRen.dead | exact Aj | exact OwRen.obj | exact Ao | exact Ak rfl);exact rfl))),?_⟩
  try simp only [Be,Bo]
  have hsl:ss.length≤1000000:=by
   have:=hperm.length_eq
   rw [List.length_map] at this
   omega
  refine Wa<|Y0<|Y1<|Wm<|Wm ?_
  refine Bi [3] [] (Ly ss g c hsl) (by first | exact Or.inl rfl | exact Or.inr ⟨by decide,rfl,by repeat (first | exact AvoidR.nil | refine AJ rfl ?_ | refine AvoidR.dead ?_ | refine AP ?_ | refine AvoidR.obj ?_ | refine AH ?_ | refine AI rfl ?_ | refine AvoidR.pin rfl ?_)⟩) rfl rfl (by first | exact .inl ⟨rfl,rfl⟩ | exact .inr ⟨rfl,rfl⟩) (by repeat (first | exact ArgsC.nil | refine ArgsC.d rfl (D.le.refl _) ?_ | refine AZ rfl rfl ?_)) (by decide) (by repeat (first | exact SelR.nil | refine SelR.var rfl ?_ | refine SelR.obj rfl ?_ | refine Bh rfl ?_ | refine Ba rfl rfl rfl ?_)) (by repeat (first | exact trivial | refine ⟨⟨_,_,rfl⟩,?_⟩)) rfl ?_
  rintro _ _ ⟨S,hS1,hS2,rfl,rfl⟩
  refine ⟨_,_,_,(by first | exact AVRen.d | exact AVRen.own rfl | exact AVRen.ptr rfl | exact AVRen.fn rfl),(by repeat (first | exact SetR.nil | (apply SetR.cons;(first | exact OwRen.dead | exact Aj | exact OwRen.obj | exact Ao | exact Ak rfl);exact rfl))),(by repeat (first | exact AppR.nil | (apply AppR.cons;(first | exact OwRen.dead | exact Aj | exact OwRen.obj | exact Ao | exact Ak rfl);exact rfl))),?_⟩
  try simp only [Be,Bo]
  have hSl:S.length = ss.length:=hS1.length_eq
  refine Ds (Fh (R:=BF S) 3 5 rfl rfl rfl rfl fun s' hs v hv=>?_) ?_
  ·rw [← hSl] at hv hc1
   exact PK (hs _ List.mem_cons_self) hc1 hc2 hv
  refine Y0<|Y1<|Wm<|Wa<|Y0 ?_;apply Aw
  refine Bk (RetsA.one rfl) rfl ?_ rfl
  exact ⟨S,[.dead],hS1.trans hperm,hS2,rfl,rfl,.inr rfl⟩
section
variable {hp : List Ow} {arg:Operand→AV} {dd:Option Tmp} {ty:TypeId} {ps:String} {af:Array Edge} {gd:Option (Nat × Bool)}
theorem Mf {m x:Operand} {mt vt:TypeId} {id:Nat} {E:List KD} {a:Nat→Int} {d:TypeDesc} {n b n' b':Nat} {z z0:Value} (hn:∀ t∈E,¬ Eqv a t.1) (hm:arg m = .own id) (hid:hp[id]? = some (.obj (Dl E))) (hx:arg x = .d (BK (AE a))) (hmt:Tab Tryz.prog mt (.map 55 vt) n b z) (hvt:Tab Tryz.prog vt d n' b' z0):Quiet Tryz.prog hp ⟨dd,.lookup mt m x false,ty,ps,af,gd⟩ arg (.d (ex z0)):=by
 refine ⟨fun base s ρ ev hok hbs hhp h=>?_⟩
 have h2:=h m (by simp [Op.operands])
 have h3:=h x (by simp [Op.operands])
 rw [hm] at h2;rw [hx] at h3
 obtain ⟨g,e1,h4⟩:=Jr hhp h2 hid
 have e2:=Cm h3
 have h5:=h4.look_none hmt.und hvt.run_zero hn false
 exact Bl (v:=z0) (by simp only [execOp,e1,e2,Sem.run_bind,h5,Result.andThen_ok,Sem.run_pure,Bool.false_eq_true,if_false]) ⟨GS.Le.refl s,rfl⟩
theorem Ti {m x:Operand} {mt vt:TypeId} {id:Nat} {E:List KD} {a:Nat→Int} {n b:Nat} {z:Value} {d:D} (i:Nat) (hi:i<E.length) (he:Eqv a (Gj E i).1) (hn:∀ j,j<i→¬ Eqv a (Gj E j).1) (hd:(Gj E i).2 = d) (hm:arg m = .own id) (hid:hp[id]? = some (.obj (Dl E))) (hx:arg x = .d (BK (AE a))) (hmt:Tab Tryz.prog mt (.map 55 vt) n b z):Quiet Tryz.prog hp ⟨dd,.lookup mt m x false,ty,ps,af,gd⟩ arg (.d d):=by
 subst hd
 refine ⟨fun base s ρ ev hok hbs hhp h=>?_⟩
 have h2:=h m (by simp [Op.operands])
 have h3:=h x (by simp [Op.operands])
 rw [hm] at h2;rw [hx] at h3
 obtain ⟨g,e1,h4⟩:=Jr hhp h2 hid
 have e2:=Cm h3
 obtain ⟨v,h6,h5⟩:=h4.look_some hmt.und hi he hn false
 exact Bl (v:=v) (by simp only [execOp,e1,e2,Sem.run_bind,h5,Result.andThen_ok,Sem.run_pure,Bool.false_eq_true,if_false]) ⟨GS.Le.refl s,h6⟩
end
theorem Gq : Tab Tryz.prog KZ (.map 55 4) 1 8 (.map none):=⟨Tryz.underlying96,by kernel_rfl⟩
theorem XY : Tab Tryz.prog 4 .bool 1 1 (.bool false):=⟨Tryz.underlying4,by kernel_rfl⟩
theorem QJ : Tab Tryz.prog 97 (.func #[55] #[] false) 1 8 .nilFunc:=⟨Tryz.underlying97,by kernel_rfl⟩
abbrev clF : FuncId:=70
def bE (K : Af):List KD:=K.map fun a=>(a,ex (.bool true))
theorem PW (K : Af):(bE K).length = K.length:=List.length_map ..
theorem Xk (K : Af):Hk (bE K) = K:=by
 unfold bE
 rw [Hk,List.map_map]
 exact List.map_id' K
theorem A0f {K : Af} {i:Nat} (h:i<(bE K).length):(Gj (bE K) i).2 = ex (.bool true):=by
 have h':i<K.length:=by rwa [PW] at h
 unfold Gj bE
 rw [List.getD_eq_getElem?_getD,List.getElem?_map,List.getElem?_eq_getElem h']
 rfl
theorem Zb {K : Af} {i:Nat} (h:i<(bE K).length):(Gj (bE K) i).1∈K:=by
 have h':i<K.length:=by rwa [PW] at h
 unfold Gj bE
 rw [List.getD_eq_getElem?_getD,List.getElem?_map,List.getElem?_eq_getElem h']
 exact List.getElem_mem h'
theorem Xj (K : Af) (m:Nat→Int):Hs (bE K) m (ex (.bool true)) none = bE (K ++ [m]):=by
 unfold bE Hs
 rw [List.map_append]
 rfl
abbrev PS (l : Af) (n:Nat) (K:Af):List Ow:=[.var KZ [.own 1],.obj (Dl (bE K)),.var 28 ([BF l].map .d),.var 3 ([ex (.int .i64 (n:Nat))].map .d),.var 97 [.fn clF [0,2,3,4]]]
abbrev ColC (l : Af) (n:Nat) (K:Af) (m:Nat→Int):Prop:=Con Tryz.prog clF [.d (BK (AE m)),.ptr 0 0,.ptr 2 0,.ptr 3 0,.ptr 4 0] (PS l n K) [] (fun r hp'=>∃ K',Dfs l n K m K'∧r = .d Ch∧hp' = PS l n K' ++ [.dead])
theorem Vc (l : Af) (n:Nat) (K:Af) (tl:List Ow) (r:AV) (hp':List Ow) (Q:AV→List Ow→Prop) (hr:r = .d Ch) (hh:hp' = (PS l n K ++ [.dead]) ++ tl) (hq:Q (.d Ch) (PS l n K ++ [.dead])):∃ d hp2 tl,r = .d d∧hp' = hp2 ++ tl∧5≤hp2.length∧(∀ o∈hp2,Low hp2.length o)∧Q (.d d) hp2:=by
 refine ⟨Ch,_,tl,hr,hh,by simp,fun o ho=>?_,hq⟩
 simp only [List.cons_append,List.nil_append,List.mem_cons,List.not_mem_nil,or_false] at ho
 rcases ho with rfl | rfl | rfl | rfl | rfl | rfl
 ·refine Low.var fun av hav m' ρ s v h=>?_
  rw [List.mem_singleton.1 hav] at h ⊢
  exact ⟨by simp,h.2⟩
 ·exact fun _ _ _ _ h=>h
 ·exact UL
 ·exact UL
 ·refine Low.var fun av hav m' ρ s v h=>?_
  rw [List.mem_singleton.1 hav] at h ⊢
  exact ⟨fun i hi=>by
   simp only [List.mem_cons,List.not_mem_nil,or_false] at hi
   simp
   omega,h.2⟩
 ·exact Low.dead
theorem Nm {l : Af} {n:Nat} {K:Af} {m:Nat→Int} (h:Con Tryz.prog clF [.d (BK (AE m)),.ptr 0 0,.ptr 2 0,.ptr 3 0,.ptr 4 0] (PS l n K) [] (fun r hp'=>r = .d Ch∧∃ K' tl,Dfs l n K m K'∧hp' = (PS l n K' ++ [.dead]) ++ tl)):ColC l n K m :=
 h.cut fun r hp' ⟨h1,K',tl,h3,h2⟩=>Vc l n K' tl r hp' (fun r hp'=>∃ K',Dfs l n K m K'∧r = .d Ch∧hp' = PS l n K' ++ [.dead]) h1 h2 ⟨K',h3,rfl,rfl⟩
theorem Vb (l : Af) (n:Nat) (K:Af) (m:Nat→Int) (hl:l.length≤1000000) (h:inB l m = true) (hno:∀ t∈bE K,¬ Eqv m t.1) (hp:K.Pairwise fun a b=>¬ Eqv a b):ColC l n K m:=by
 refine Nm ?_
 have ci:=Jw m l hl
 rw [h] at ci
 refine HG Tryz.func70 rfl (As Tryz.func70 (by kernel_rfl) (by kernel_rfl)) rfl fun s0 pv0 pv1 pv2 pv3 pv4=>?_
 rw [Tryz.ntmps70]
 apply Y1;refine Bx ?_;refine Y0<|Aa<|Y1 ?_;refine Wq (Cn (ao rfl) rfl Gq rfl rfl) ?_;refine Wq AL ?_;refine Wq (Mf hno (ao rfl) rfl (ao rfl) Gq XY) ?_;refine Wm ?_;refine Wg AL ?_;refine Wg Cb ?_;refine Wg (Am (ci)) ?_;refine Wq AW ?_;apply Y0;refine Ct ?_;apply Aw;apply Bc
 refine Bk Ew rfl ?_ rfl
 exact ⟨rfl,K,_,VR h hp,rfl⟩
theorem OK (l : Af) (n:Nat) (K:Af) (m:Nat→Int) (i:Nat) (hi:i<(bE K).length) (he:Eqv m (Gj (bE K) i).1) (hn:∀ j,j<i→¬ Eqv m (Gj (bE K) j).1) (hpre:PreD l n K m) (hp:K.Pairwise fun a b=>¬ Eqv a b):ColC l n K m:=by
 refine Nm ?_
 refine HG Tryz.func70 rfl (As Tryz.func70 (by kernel_rfl) (by kernel_rfl)) rfl fun s0 pv0 pv1 pv2 pv3 pv4=>?_
 rw [Tryz.ntmps70]
 apply Y1;refine Bx ?_;refine Y0<|Aa<|Y1 ?_;refine Wq (Cn (ao rfl) rfl Gq rfl rfl) ?_;refine Wq AL ?_;refine Wq (Ti i hi he hn (A0f hi) (ao rfl) rfl (ao rfl) Gq) ?_;refine Wm ?_;refine Ws ?_;refine Ws ?_;refine Ws ?_;refine Wq AU ?_;apply Y0;refine Ct ?_;apply Aw;apply Bc
 refine Bk Ew rfl ?_ rfl
 exact ⟨rfl,K,_,VQ ⟨_,Zb hi,he.symm⟩ hpre hp,rfl⟩
theorem Wv (m : Nat→Int) (i:Nat):DD (IA m i) i (IA m i i - 1) = m:=by
 funext j
 unfold IA DD
 by_cases h:j = i
 ·subst h
  rw [if_pos rfl,if_pos rfl]
  omega
 ·rw [if_neg h,if_neg h]
theorem YX (l : Af) (n:Nat) (K:Af) (m:Nat→Int) (hn8:n≤8) (hl:l.length≤1000000) (hs:StdX l n m) (hm:In8 m 0 10000) (hno:∀ t∈bE K,¬ Eqv m t.1) (hpre:PreD l n K m) (hp:K.Pairwise fun a b=>¬ Eqv a b) (ih:∀ (i:Nat) (K1:Af),i<n→PreD l n K1 (IA m i)→(K1.Pairwise fun a b=>¬ Eqv a b)→ColC l n K1 (IA m i)):ColC l n K m:=by
 refine Nm ?_
 have ci:=Jw m l hl
 rw [hs.2] at ci
 have hK:∀ x∈K,¬ Eqv m x:=fun x hx=>hno (x,ex (.bool true)) (List.mem_map.2 ⟨x,hx,rfl⟩)
 have hst:=Xj K m
 refine HG Tryz.func70 rfl (As Tryz.func70 (by kernel_rfl) (by kernel_rfl)) rfl fun s0 pv0 pv1 pv2 pv3 pv4=>?_
 rw [Tryz.ntmps70]
 apply Y1;refine Bx ?_;refine Y0<|Aa<|Y1 ?_;refine Wq (Cn (ao rfl) rfl Gq rfl rfl) ?_;refine Wq AL ?_;refine Wq (Mf hno (ao rfl) rfl (ao rfl) Gq XY) ?_;refine Wm ?_;refine Wg AL ?_;refine Wg Cb ?_;refine Wg (Am (ci)) ?_;refine Wq AW ?_;apply Y0;refine Cf ?_;refine Ys<|Y1 ?_;refine Wq (Cn (ao rfl) rfl Gq rfl rfl) ?_;refine Wq AL ?_;refine VV none (.no hno) (ao rfl) rfl (ao rfl) rfl Gq rfl ?_;refine Y0<|Y1 ?_;refine Wq Cb ?_;refine Wm<|Y0<|AWp.block ?_
 rw [hst]
 skip
 refine AK (fun mz σ=>∃ i,i≤n∧mz = n - i∧∃ K1,DfsI l n K m i K1∧σ = ⟨[(1,.ptr 0 0),(2,.ptr 2 0),(3,.ptr 3 0),(4,.ptr 4 0),(5,.ptr 6 0),(17,.d (ex (.int .i64 (n:Nat)))),(18,.d (ex (.int .i64 (i:Nat))))],[.var KZ [.own 1],.obj (Dl (bE K1)),.var 28 ([BF l].map .d),.var 3 ([ex (.int .i64 (n:Nat))].map .d),.var 97 [.fn clF [0,2,3,4]],.pin [(pv0,.own 0),(pv1,.own 1),(pv2,.own 2),(pv3,.own 3),(pv4,.own 4)],.var 55 ((AE m).map .d)]⟩) ?le ⟨0,by omega,rfl,K ++ [m],DfsI.start hs hK hp,rfl⟩ ?round
 case le=>exact Ag (by exact Yp<|Yp<|Yp<|Yp<|Yp<|Yd<|Yd<|FrLe.nil) (by exact HpLe.cons (BP rfl)<|HpLe.cons (OwLe.obj rfl)<|Yv<|Yv<|HpLe.cons (BP rfl)<|HpLe.cons (Bb rfl)<|Yv<|HpLe.nil)
 case round =>
  rintro mz _ ⟨i,hi,rfl,K1,hD,rfl⟩
  by_cases hlt:i<n
  ·have hi8 : i < 8 := by omega
   have hmi:=hm i hi8
   have cc:=ih i K1 hlt (hD.pre hpre hi8) hD.pw
   apply Y1;refine Wq Ar ?_;refine Y0<|Aa ?_;refine Ct ?_;refine Ys<|Aa<|AWp.block<|Y1<|Wm<|Wa<|Y0<|Y1<|Wm ?_;refine Wq AQ ?_;refine Wq Bg ?_;refine Wq CP ?_;refine Wq AQ ?_;(refine BL (ao rfl) (ao rfl) rfl (Ac rfl) (by first | exact Bw rfl | exact One.sl | exact Cv) (SetAt.mon (by first | omega | (simp;omega))) rfl ?_);refine Y0<|Y1 ?_;refine Wq (Cn (ao rfl) rfl QJ rfl rfl) ?_;refine Wq AL ?_
   refine Bi [0,1,2,3,4] [0,2,3,4] (cc) (by first | exact Or.inl rfl | exact Or.inr ⟨by decide,rfl,by repeat (first | exact AvoidR.nil | refine AJ rfl ?_ | refine AvoidR.dead ?_ | refine AP ?_ | refine AvoidR.obj ?_ | refine AH ?_ | refine AI rfl ?_ | refine AvoidR.pin rfl ?_)⟩) rfl rfl (by first | exact .inl ⟨rfl,rfl⟩ | exact .inr ⟨rfl,rfl⟩) (by repeat (first | exact ArgsC.nil | refine ArgsC.d rfl (D.le.refl _) ?_ | refine AZ rfl rfl ?_)) (by decide) (by repeat (first | exact SelR.nil | refine SelR.var rfl ?_ | refine SelR.obj rfl ?_ | refine Bh rfl ?_ | refine Ba rfl rfl rfl ?_)) (by repeat (first | exact trivial | refine ⟨⟨_,_,rfl⟩,?_⟩)) rfl ?_
   rintro _ _ ⟨K2,hD2,rfl,rfl⟩
   refine ⟨_,_,_,(by first | exact AVRen.d | exact AVRen.own rfl | exact AVRen.ptr rfl | exact AVRen.fn rfl),(by repeat (first | exact SetR.nil | (apply SetR.cons;(first | exact OwRen.dead | exact Aj | exact OwRen.obj | exact Ao | exact Ak rfl);exact rfl))),(by repeat (first | exact AppR.nil | (apply AppR.cons;(first | exact OwRen.dead | exact Aj | exact OwRen.obj | exact Ao | exact Ak rfl);exact rfl))),?_⟩
   try simp only [Be,Bo]
   have hz:DD m i (m i+1) i = m i+1:=if_pos rfl
   refine Y0<|AWp.region<|Wm ?_;refine Wq AQ ?_;refine Wq Bg ?_;refine Wq DS ?_;refine Wq AQ ?_;(refine BL (ao rfl) (ao rfl) rfl (Ac rfl) (by first | exact Bw rfl | exact One.sl | exact Cv) (SetAt.mon (by first | omega | (simp;omega))) rfl ?_);apply AWl.nil;apply Ah;refine Yn<|AWp.region ?_;refine Wq AG ?_;refine Wm ?_;apply AWl.nil
   refine ALoop.next (n - (i+1)) (by omega) ⟨i+1,by omega,rfl,K2,hD.step hD2,rfl⟩ ?_
   exact Ag (by exact Yp<|Yp<|Yp<|Yp<|Yp<|Yd<|Yd<|FrLe.nil) (by exact HpLe.cons (BP rfl)<|HpLe.cons (OwLe.obj rfl)<|Yv<|Yv<|HpLe.cons (BP rfl)<|HpLe.cons (Bb rfl)<|HpLe.cons (Dz (by rw [Wv]))<|HpLe.nil)
  ·obtain rfl : i = n := by omega
   apply Y1;refine Wq Aq ?_;refine Y0<|Aa ?_;refine Cf ?_;apply AF;apply Az;apply AA;apply AB
   refine GL Ew rfl ?_ rfl
   exact ⟨rfl,K1,_,hD.done hn8 (fun j hj=>(hm j hj).1),rfl⟩
theorem PR {x : Nat→Int} {B:Nat}:∀ (k i:Nat),(∀ j,i≤j→j<i+k→x j≤B)→BN k i x≤k*B
 | 0,_,_=>Nat.zero_le _
 | k+1,i,h=>by
  have h1:=h i (Nat.le_refl i) (by omega)
  have h2:=PR (B:=B) k (i+1) fun j a b=>h j (by omega) (by omega)
  rw [BN,Nat.succ_mul]
  omega
theorem Xc (l : Af) (n B:Nat) (hn8:n≤8) (hl:l.length≤1000000) (hB:∀ y,StdX l n y→∀ j,j<8→y j≤B) (hBs:B≤1000):∀ (k:Nat) (K:Af) (m:Nat→Int),8*B+1≤BN 8 0 m+k→(∀ j,j<8→0≤m j∧m j≤B+1∧(n≤j→m j = 0))→PreD l n K m→(K.Pairwise fun a b=>¬ Eqv a b)→ColC l n K m:=by
 intro k
 induction k with
 | zero =>
  intro K m hk hm hpre hp
  rcases UP (bE K) m with h | ⟨i,h1,h2,h3⟩
  ·cases hi:inB l m with
   | true=>exact Vb l n K m hl hi h hp
   | false =>
    have hs:StdX l n m:=⟨fun j hj=>⟨(hm j hj).1,(hm j hj).2.2⟩,hi⟩
    have:=PR (x:=m) (B:=B) 8 0 fun j _ h=>hB m hs j (by omega)
    omega
  ·exact OK l n K m i h1 h2 h3 hpre hp
 | succ k ih =>
  intro K m hk hm hpre hp
  rcases UP (bE K) m with h | ⟨i,h1,h2,h3⟩
  ·cases hi:inB l m with
   | true=>exact Vb l n K m hl hi h hp
   | false =>
    have hs:StdX l n m:=⟨fun j hj=>⟨(hm j hj).1,(hm j hj).2.2⟩,hi⟩
    refine YX l n K m hn8 hl hs (fun j hj=>?_) h hpre hp fun i K1 hin hpre1 hp1=>ih K1 (IA m i) ?_ (fun j hj=>?_) hpre1 hp1
    ·have:=hm j hj
     have:=hB m hs j hj
     omega
    ·rw [YR m i (fun j hj => (hm j hj).1) (by omega)]
     omega
    ·have h1:=hm j hj
     have h2:=hB m hs j hj
     rw [Iz]
     split
     ·rename_i e
      subst e
      omega
     ·omega
  ·exact OK l n K m i h1 h2 h3 hpre hp
section
variable {P : Program} {s0:An} {n:Nat} {ops:Array Oper} {Q:Exit→AS→Prop} {rest:List Oper} {fr:List (Nat × AV)} {hp hp':List Ow} {ty:TypeId} {ps:String} {af:Array Edge}
theorem XQ {T : TypeId} {x:Operand} {av:AV} {k t:Nat} (hx:AS.arg ⟨fr,hp⟩ x = av) (h1:One hp av) (hT:Nat.beq T 136 = false) (hd:Nat.blt t n = true) (hk:EZ hp = some k) (hs:CT hp (.var T [av]) = some hp') (h:AWl P s0 n ops Q rest ⟨(t,.ptr k 0) :: fr,hp'⟩):AWl P s0 n ops Q (⟨some t,.box T x,ty,ps,af,none⟩ :: rest) ⟨fr,hp⟩:=by
 have hT':T ≠ 136:=Nat.ne_of_beq_eq_false hT
 rw [Cx hs] at h
 have hk':=Dt hk
 subst hk'
 refine AWl.step rfl fun s ρ a hst K hK=>?_
 have hv:AVr hp.length ρ s av (a.eval x):=by
  have:=hst.arg x
  rw [hx] at this
  exact this
 have h1v:(a.eval x).oneCell' = true:=h1 0 ρ s _ hst.hp hv
 obtain ⟨u,e1⟩:∃ u,a.eval x = u:=⟨_,rfl⟩
 rw [e1] at hv h1v
 have hcs:u.cells = #[u]:=by cases u <;> first | rfl | cases h1v
 have hrun:(execOp a.eval ⟨some t,.box T x,ty,ps,af,none⟩).run P s.w = .ok (.value (.pointer (some ⟨s.w.heap.size,0,none⟩))) (s.w.alloc (.cells #[u] T)):=by
  simp only [execOp,e1,Instr.box,Sem.run_bind,DQ,Result.andThen_ok,Sem.run_pure,hcs]
 unfold Oper.wp
 rw [hrun]
 have hle:=s.le_mk' #[u] T 0 hT'
 refine hK _ _ _ h ⟨s.mk' #[u] T 0,_,rfl,hst.new (dst:=some t) (r:=.ptr hp.length 0) (ow:=.var T [av]) hle (FA (by simpa [Pr] using hd)) (u:=.pointer (some ⟨s.w.heap.size,0,none⟩)) ⟨Nat.lt_succ_self hp.length,s.w.heap.size,by simp,rfl⟩ ?_ fun b hb=>by cases hb;exact Nat.le_refl _⟩
 refine ⟨s.w.heap.size,#[u],by simp,Nat.zero_le _,heap_alloc_new s.w _,by simp,hT',fun k hk=>absurd (hst.ok.lt _ _ hk) (Nat.lt_irrefl _),fun k av' hk=>?_⟩
 cases k with
 | zero =>
  cases hk
  exact ⟨u, by simp, h1v, (hv.chg hle.chg).mono (Nat.le_succ _) fun i hi => by
   have:i ≠ hp.length:=Nat.ne_of_lt hi
   simp [this]⟩
 | succ k=>cases hk
theorem VM {id : Nat} {E:List KD} (h:hp[id]? = some (.obj (Dl E))):One hp (.own id):=fun base ρ s v hh hv=>by
 obtain ⟨b,e,_⟩:=Jr hh hv h
 rw [e]
 rfl
end
theorem SE (E : List KD):Con Tryz.prog 73 [.own 0] [.obj (Dl E)] [] (fun r hp'=>r = .fn 125 [2]∧hp' = [.obj (Dl E),.dead,.var KZ [.own 0]]):=by
 refine BC Tryz.func73 rfl (As Tryz.func73 (by kernel_rfl) (by kernel_rfl)) rfl fun s0 pv0=>?_
 rw [Tryz.ntmps73]
 apply Y1;refine XQ (ao rfl) (VM rfl) rfl rfl rfl rfl ?_;refine Wa<|Y0<|Y1 ?_;refine Wq (Ft [2] rfl) ?_;refine Wa<|Y0 ?_;apply Aw
 refine Bk (RetsA.one rfl) rfl ?_ rfl
 exact ⟨rfl,rfl⟩
theorem Nx (E : List KD) (hE:E.length≤1000000):Con Tryz.prog 72 [.fn 125 [0],.d (ex (.func (.func 74) #[] #[]))] [.var KZ [.own 1],.obj (Dl E)] [] (fun r hp'=>∃ (S:Af),S.Perm (Hk E)∧(S.Pairwise fun a b=>lx a b≤0)∧r = .d (BF S)∧hp' = [.var KZ [.own 1],.obj (Dl E),.dead]) :=
 (Ny E hE).cut fun r hp' ⟨S, tl, h1, h2, h3, h4, _⟩ => ⟨BF S, [.var KZ [.own 1], .obj (Dl E), .dead], tl, h3, h4, by simp, fun o ho => by
  simp only [List.mem_cons,List.not_mem_nil,or_false] at ho
  rcases ho with rfl | rfl | rfl
  ·refine Low.var fun av hav m' ρ s v h=>?_
   rw [List.mem_singleton.1 hav] at h ⊢
   exact ⟨by simp,h.2⟩
  ·exact fun _ _ _ _ h=>h
  ·exact Low.dead,⟨S,h1,h2,rfl,rfl⟩⟩
def IsStd (l : Af) (n:Nat) (S:Af):Prop:=(S.Pairwise fun a b=>lx a b<0)∧∀ x,MemE x S↔StdX l n x
theorem Ta (l : Af) (n B:Nat) (d deg:Int) (hn8:n≤8) (hl:l.length≤1000) (hB:∀ y,StdX l n y→∀ j,j<8→y j≤B) (hBs:B≤1000) (hcnt:∀ K:Af,(∀ x,MemE x K↔StdX l n x)→(K.Pairwise fun a b=>¬ Eqv a b)→K.length≤1000000) (hd:d≤0) (hdeg:deg≤1000) (ck:Abs Tryz.prog 46 [BF l,ex (.int .i64 (n:Nat))] (ex (.int .i64 0))) (cd:Abs Tryz.prog 55 [BF l,ex (.int .i64 (n:Nat))] (ex (.int .i64 d))) (cg:Abs Tryz.prog 56 [BF l,ex (.int .i64 (n:Nat))] (ex (.int .i64 deg))):Abs Tryz.prog 28 [BF l,ex (.int .i64 (n:Nat))] (DP [Nz (IsStd l n) BF,ex (.int .i64 0)]):=by
 have hd':¬ 0<d:=by omega
 have hdeg':¬ 1000<deg:=by omega
 have cc:=Xc l n B hn8 (by omega) hB hBs (8*B+1) [] (fun _=>0) (by omega) (fun j hj=>⟨Int.le_refl 0,by omega,fun _=>rfl⟩) (PreD.top l n _) List.Pairwise.nil
 refine Ab Tryz.func28 fun s0=>?_
 rw [Tryz.ntmps28]
 apply Y1;refine RY (ao rfl) One.sl rfl rfl rfl rfl ?_;refine RZ (ao rfl) rfl rfl rfl rfl rfl ?_;refine Wa<|Wa<|Y0<|Aa<|Y1 ?_;refine Wq Cb ?_;refine Wq Cb ?_;refine Wq (Am (ck)) ?_;refine Wa<|Y0<|Y1<|Wm ?_;refine Wq Aq ?_;apply Y0;refine Cf ?_;refine Ys<|Aa<|Y1 ?_;refine Wq Cb ?_;refine Wq Cb ?_;refine Wq (Am (cd)) ?_;refine Wq Aq ?_;apply Y0;refine Cf ?_;refine Ys<|Aa<|Y1 ?_;refine Wq Cb ?_;refine Wq Cb ?_;refine Wq (Am (cg)) ?_;refine Wq Aq ?_;apply Y0;refine Cf ?_;refine Ys<|Y1 ?_;refine VW rfl rfl rfl ?_;refine KV Gq rfl rfl rfl rfl rfl rfl ?_;refine Ix (ao rfl) (ao rfl) rfl Gq (VM rfl) rfl rfl ?_;refine Y0<|Y1 ?_;refine KV QJ rfl rfl rfl rfl rfl rfl ?_;refine Y0<|Y1 ?_;refine Wq (Ft [3,0,1,4] rfl) ?_;refine Ix (ao rfl) (ao rfl) rfl QJ One.fn rfl rfl ?_;refine Y0<|Y1 ?_;refine Wq (Cn (ao rfl) rfl QJ rfl rfl) ?_;(refine Di rfl rfl ?_;(refine EM (Ac rfl) (Ac rfl) rfl rfl ?_;(repeat ((first | refine ⟨_,BA (ao rfl),?_⟩ | refine ⟨_,Po rfl,?_⟩);refine ⟨_,rfl,?_⟩));refine ⟨_,rfl,?_⟩))
 refine Bi [3,2,0,1,4] [0,2,3,4] (cc) (by first | exact Or.inl rfl | exact Or.inr ⟨by decide,rfl,by repeat (first | exact AvoidR.nil | refine AJ rfl ?_ | refine AvoidR.dead ?_ | refine AP ?_ | refine AvoidR.obj ?_ | refine AH ?_ | refine AI rfl ?_ | refine AvoidR.pin rfl ?_)⟩) rfl rfl (by first | exact .inl ⟨rfl,rfl⟩ | exact .inr ⟨rfl,rfl⟩) (by repeat (first | exact ArgsC.nil | refine ArgsC.d rfl (D.le.refl _) ?_ | refine AZ rfl rfl ?_)) (by decide) (by repeat (first | exact SelR.nil | refine SelR.var rfl ?_ | refine SelR.obj rfl ?_ | refine Bh rfl ?_ | refine Ba rfl rfl rfl ?_)) (by repeat (first | exact trivial | refine ⟨⟨_,_,rfl⟩,?_⟩)) rfl ?_
 rintro _ _ ⟨K,hD,rfl,rfl⟩
 refine ⟨_,_,_,(by first | exact AVRen.d | exact AVRen.own rfl | exact AVRen.ptr rfl | exact AVRen.fn rfl),(by repeat (first | exact SetR.nil | (apply SetR.cons;(first | exact OwRen.dead | exact Aj | exact OwRen.obj | exact Ao | exact Ak rfl);exact rfl))),(by repeat (first | exact AppR.nil | (apply AppR.cons;(first | exact OwRen.dead | exact Aj | exact OwRen.obj | exact Ao | exact Ak rfl);exact rfl))),?_⟩
 try simp only [Be,Bo]
 obtain ⟨hk1,hk2⟩:=hD.top
 have hKl:=hcnt K hk1 hk2
 refine Y0<|Y1 ?_;refine Wq (Cn (ao rfl) rfl Gq rfl rfl) ?_
 refine Bi [2] [] (SE (bE K)) (by first | exact Or.inl rfl | exact Or.inr ⟨by decide,rfl,by repeat (first | exact AvoidR.nil | refine AJ rfl ?_ | refine AvoidR.dead ?_ | refine AP ?_ | refine AvoidR.obj ?_ | refine AH ?_ | refine AI rfl ?_ | refine AvoidR.pin rfl ?_)⟩) rfl rfl (by first | exact .inl ⟨rfl,rfl⟩ | exact .inr ⟨rfl,rfl⟩) (by repeat (first | exact ArgsC.nil | refine ArgsC.d rfl (D.le.refl _) ?_ | refine AZ rfl rfl ?_)) (by decide) (by repeat (first | exact SelR.nil | refine SelR.var rfl ?_ | refine SelR.obj rfl ?_ | refine Bh rfl ?_ | refine Ba rfl rfl rfl ?_)) (by repeat (first | exact trivial | refine ⟨⟨_,_,rfl⟩,?_⟩)) rfl ?_
 rintro _ _ ⟨rfl,rfl⟩
 refine ⟨_,_,_,(by first | exact AVRen.d | exact AVRen.own rfl | exact AVRen.ptr rfl | exact AVRen.fn rfl),(by repeat (first | exact SetR.nil | (apply SetR.cons;(first | exact OwRen.dead | exact Aj | exact OwRen.obj | exact Ao | exact Ak rfl);exact rfl))),(by repeat (first | exact AppR.nil | (apply AppR.cons;(first | exact OwRen.dead | exact Aj | exact OwRen.obj | exact Ao | exact Ak rfl);exact rfl))),?_⟩
 try simp only [Be,Bo]
 refine Bi [7,2] [] (Nx (bE K) (by rw [PW];exact hKl)) (by first | exact Or.inl rfl | exact Or.inr ⟨by decide,rfl,by repeat (first | exact AvoidR.nil | refine AJ rfl ?_ | refine AvoidR.dead ?_ | refine AP ?_ | refine AvoidR.obj ?_ | refine AH ?_ | refine AI rfl ?_ | refine AvoidR.pin rfl ?_)⟩) rfl rfl (by first | exact .inl ⟨rfl,rfl⟩ | exact .inr ⟨rfl,rfl⟩) (by repeat (first | exact ArgsC.nil | refine ArgsC.d rfl (D.le.refl _) ?_ | refine AZ rfl rfl ?_)) (by decide) (by repeat (first | exact SelR.nil | refine SelR.var rfl ?_ | refine SelR.obj rfl ?_ | refine Bh rfl ?_ | refine Ba rfl rfl rfl ?_)) (by repeat (first | exact trivial | refine ⟨⟨_,_,rfl⟩,?_⟩)) rfl ?_
 rintro _ _ ⟨S,hS1,hS2,rfl,rfl⟩
 refine ⟨_,_,_,(by first | exact AVRen.d | exact AVRen.own rfl | exact AVRen.ptr rfl | exact AVRen.fn rfl),(by repeat (first | exact SetR.nil | (apply SetR.cons;(first | exact OwRen.dead | exact Aj | exact OwRen.obj | exact Ao | exact Ak rfl);exact rfl))),(by repeat (first | exact AppR.nil | (apply AppR.cons;(first | exact OwRen.dead | exact Aj | exact OwRen.obj | exact Ao | exact Ak rfl);exact rfl))),?_⟩
 try simp only [Be,Bo]
 rw [Xk] at hS1
 obtain ⟨hs1,hs2⟩:=Pz hS1 hS2 hk2
 have hstd:IsStd l n S:=⟨hs1,fun x=>(hs2 x).trans (hk1 x)⟩
 refine Wa<|Wa<|Y0 ?_;apply Aw
 exact Cq (CV (ResV.tmp rfl rfl) (ResV.tmp rfl rfl) (CC (fun s v h=>⟨S,hstd,h⟩) (D.le.refl _)))
abbrev Fy (l : Af) (n:Nat):Int:=HD (Ef l (2 ^ n))
def WZ (l : Af) (n N:Nat) (f:Nat→Int):Int:=if Fy l n<0 then 0 else BE (cN N f (n - (Fy l n).toNat)).1 (CD (n - (Fy l n).toNat) f)
structure HilC (l : Af) (n N:Nat) (f:Nat→Int):Prop where
 ck:Abs Tryz.prog 46 [BF l,ex (.int .i64 (n:Nat))] (ex (.int .i64 0))
 num:NumL l N f
 nle:N≤6145
 bnd:∀ i,-4096≤f i∧f i≤4096
 cn:Abs Tryz.prog 47 [BF l] (nD N f)
 cd:Abs Tryz.prog 55 [BF l,ex (.int .i64 (n:Nat))] (ex (.int .i64 (Fy l n)))
 cc:∀ Dm:Nat,Fy l n = Dm→Abs Tryz.prog 58 [BF l,ex (.int .i64 (n:Nat)),ex (.int .i64 (Dm:Nat))] (nD (cN N f (n - Dm)).1 (CD (n - Dm) f))
 cg:Abs Tryz.prog 56 [BF l,ex (.int .i64 (n:Nat))] (ex (.int .i64 (WZ l n N f)))
 dle:Fy l n≤n
 far:∀ Dm:Nat,Fy l n = Dm→∀ i,(cN N f (n - Dm)).1≤i→CD (n - Dm) f i = 0
 pos:∀ Dm:Nat,Fy l n = Dm→0<BE (cN N f (n - Dm)).1 (CD (n - Dm) f)
 qb:∀ Dm:Nat,Fy l n = Dm→∀ j,-9223372036854775808≤CD (n - Dm) f j∧CD (n - Dm) f j≤9223372036854775807
theorem TN (S : Nat→Bool):∀ (k i:Nat),HN k i S≤k
 | 0,_=>Nat.le_refl 0
 | k+1,i=>by
  have:=TN S k (i+1)
  rw [HN]
  split <;> omega
theorem QS : ∀ (k i:Nat),HN k i (fun _=>true) = k
 | 0,_=>rfl
 | k+1,i=>by
  rw [HN,QS k (i+1),if_pos rfl]
  omega
theorem FS.sum_eq {p : Nat→Int} {B M:Nat} {c:Int} (h:FS p B c) (hM:∀ i,M≤i→p i = 0):BE M p = c:=by
 have h1:FS p M (BE M p):=⟨hM,rfl⟩
 have h2:=h1.more (B':=max M B) (by omega)
 have h3:=h.more (B':=max M B) (by omega)
 exact h2.2.symm.trans h3.2
theorem A0a {l : Af} {n:Nat} (hn:n≤8) (h2:∀ y∈l,SupN n y):Fy l n≤n:=by
 rcases (KA hn h2).2 with h | ⟨S,_,h⟩
 ·have:Fy l n = -1:=h
  omega
 ·have:=TN S n 0
  have h:Fy l n = _:=h
  omega
theorem Jz (k Dg n:Nat) (l:Af) (hn:n≤8) (hk:k≤12) (hl:l.length≤k) (hDg:Dg≤512) (h1:∀ y∈l,In8 y 0 64) (h2:∀ y∈l,SupN n y) (hg:∀ y∈l,BN 8 0 y≤Dg) (hbig:(2:Int) ^ k*(((Dg*k:Nat):Int)+1) ^ (n+1)≤9223372036854775807):∃ N f,HilC l n N f:=by
 obtain ⟨N,f,hcn,hnum,hN,hb,hw⟩:=Lg Dg k hDg hk l hl h1 hg
 have hDk:Dg*k≤512*12:=Nat.mul_le_mul hDg hk
 have hpk:(2:Int) ^ k≤4096:=by
  have h2:2 ^ k≤2 ^ 12:=Nat.pow_le_pow_right (by decide) hk
  exact_mod_cast h2
 have hB:Bnd f (Dg*k) (2 ^ k):=fun t _=>hb t
 have hbg:∀ j,j≤n+1→(2:Int) ^ k*(((Dg*k:Nat):Int)+1) ^ j≤9223372036854775807:=fun j hj=>LG hB.pos hbig hj
 have ck:=Vd l n hn (by omega) h1 h2
 have cd:=SR l n hn (by omega)
 have hdim:=KA hn h2
 have hdl:=A0a hn h2
 obtain ⟨c0,hser⟩:=Rj hn h2 hnum.num
 have hfs:∀ Dm:Nat,Fy l n = Dm→∃ B,FS (CD (n - Dm) f) B c0∧0<c0:=fun Dm hDm=>by
  rcases hser with ⟨g1,_,_⟩ | ⟨m,p,B,g1,g2,g3,g4⟩
  ·have g1:Fy l n = -1:=g1
   omega
  ·have g1:Fy l n = (m:Int):=g1
   obtain rfl:m = Dm:=by omega
   have e:CD (m+(n - m)) f = CD m p:=by rw [show m+(n - m) = n by omega];exact g4
   exact ⟨B,by rw [Sp e];exact g2,g3⟩
 have hfar:∀ Dm:Nat,Fy l n = Dm→∀ i,(cN N f (n - Dm)).1≤i→CD (n - Dm) f i = 0:=fun Dm hDm=>by
  obtain ⟨B,h3,_⟩:=hfs Dm hDm
  exact Vj hnum.far h3 _ (Nat.le_refl _)
 have hsum:∀ Dm:Nat,Fy l n = Dm→BE (cN N f (n - Dm)).1 (CD (n - Dm) f) = c0∧0<c0:=fun Dm hDm=>by
  obtain ⟨B,h3,h4⟩:=hfs Dm hDm
  exact ⟨h3.sum_eq (hfar Dm hDm),h4⟩
 have hM:∀ j,(cN N f j).1≤Dg*k+1:=fun j=>Nat.le_trans (Vi N f j) (by omega)
 have hcc:∀ Dm:Nat,Fy l n = Dm→Abs Tryz.prog 58 [BF l,ex (.int .i64 (n:Nat)),ex (.int .i64 (Dm:Nat))] (nD (cN N f (n - Dm)).1 (CD (n - Dm) f)):=fun Dm hDm=>by
  by_cases hr:n - Dm = 0
  ·obtain rfl : Dm = n := by omega
   rw [Nat.sub_self]
   exact SW l Dm N f (by omega) hcn
  ·rcases hw with rfl | rfl | hw
   ·exfalso
    have:=hdim.1 (fun _=>true) fun a ha=>by cases ha
    rw [QS] at this
    have:(n:Int)≤Fy [] n:=this
    omega
   ·exfalso
    obtain ⟨a,ha,h0⟩:=hnum.whole fun y hy j hj=>⟨((h2 y hy) j hj).1,fun h=>by omega⟩
    rcases hdim.2 with h | ⟨S,h,_⟩
    ·have h:Fy l n = -1:=h
     omega
    ·obtain ⟨j,_,hj,_,hp⟩:=h a ha
     rw [h0 j (by omega)] at hp
     omega
   ·exact Ve l n Dm (n - Dm) N (Dg*k) f (2 ^ k) (by omega) (by omega) (by omega) (by omega) hB (hbg _ (by omega)) hw
 have hqb:∀ Dm:Nat,Fy l n = Dm→∀ j,-9223372036854775808≤CD (n - Dm) f j∧CD (n - Dm) f j≤9223372036854775807:=fun Dm hDm j=>by
  by_cases hj:j≤Dg*k
  ·have h3:=hB.sumn (n - Dm) j hj
   have h4:=hbg (n - Dm) (by omega)
   omega
  ·rw [hfar Dm hDm j (by have := hM (n - Dm); omega)]
   omega
 refine ⟨N,f,ck,hnum,by omega,fun i=>by have:=hb i;omega,hcn,cd,hcc,?_,hdl,hfar,fun Dm hDm=>by rw [(hsum Dm hDm).1];exact (hsum Dm hDm).2,hqb⟩
 unfold WZ
 have hd0:=(MT (Ef l (2 ^ n))).1
 by_cases hneg:Fy l n<0
 ·rw [if_pos hneg]
  have e:Fy l n = -1:=by
   have:-1≤Fy l n:=hd0
   omega
  have cd':=cd
  have e':HD (Ef l (2 ^ n)) = -1:=e
  rw [e'] at cd'
  exact UZ l n cd'
 ·rw [if_neg hneg]
  obtain ⟨Dm,hDm⟩:∃ Dm:Nat,Fy l n = Dm:=⟨(Fy l n).toNat,by omega⟩
  rw [hDm,Int.toNat_natCast]
  have cd':=cd
  have e':HD (Ef l (2 ^ n)) = Dm:=hDm
  rw [e'] at cd'
  refine Va l n Dm _ _ cd' (hcc Dm hDm) (by have:=hM (n - Dm);omega) fun j hj=>?_
  cases j with
  | zero=>show -9223372036854775808≤(0:Int)∧(0:Int)≤9223372036854775807;omega
  | succ j =>
   have h3:=(hB.sumn (n - Dm)).sum j (by have:=hM (n - Dm);omega)
   have h4:=hbg (n - Dm+1) (by omega)
   rw [Int.pow_succ,← Int.mul_assoc] at h4
   have h5:pS (CD (n - Dm) f) j = BE (j+1) (CD (n - Dm) f):=rfl
   rw [h5] at h3
   omega
theorem QQ (j : Nat):∀ (k i:Nat),HN k i (fun t=>decide (t = j)) = if i≤j∧j<i+k then 1 else 0
 | 0,i=>by rw [if_neg (by omega)];rfl
 | k+1,i=>by
  rw [HN,QQ j k (i+1)]
  by_cases e:i = j
  ·subst e
   rw [if_pos (by simp),if_neg (by omega),if_pos (by omega)]
  ·rw [if_neg (by simpa using e)]
   by_cases h:i≤j∧j<i+(k+1)
   ·rw [if_pos h,if_pos (by omega)]
   ·rw [if_neg h,if_neg (by omega)]
theorem Pv {l : Af} {n E:Nat} (hn:n≤8) (h2:∀ y∈l,SupN n y) (hE:∀ a∈l,∀ j,j<8→a j≤(E:Int)+1) (hd:Fy l n≤0) (x:Nat→Int) (hx:StdX l n x) (j:Nat) (hj:j<8):x j≤E:=by
 by_cases hjn:j<n
 ·have hno:¬ KS n 0 l (fun t=>decide (t = j)):=fun h=>by
   have:=(KA hn h2).1 _ h
   rw [QQ,if_pos (by omega)] at this
   have:(1:Int)≤Fy l n:=this
   omega
  obtain ⟨a,h⟩:=Classical.not_forall.1 hno
  obtain ⟨ha,h⟩:=Classical.not_imp.1 h
  have hai:∀ i,i<n→i ≠ j→a i≤0:=fun i hi hne=>by
   refine Classical.byContradiction fun hc=>h ⟨i,Nat.zero_le i,by omega,by simpa using hne,by omega⟩
  have hnd:¬ Dv a x:=fun hdv=>by
   have:=CR.2 ⟨a,ha,hdv⟩
   rw [hx.2] at this
   cases this
  obtain ⟨i,hi⟩:=Classical.not_forall.1 hnd
  obtain ⟨hi8,hi⟩:=Classical.not_imp.1 hi
  have hx0:=(hx.1 i hi8).1
  by_cases e:i = j
  ·subst e
   have:=hE a ha i hi8
   omega
  ·by_cases hin:i<n
   ·have:=hai i hin e
    omega
   ·have := (h2 a ha i hi8).2 (by omega)
    omega
 ·rw [(hx.1 j hj).2 (by omega)]
  omega
theorem Wn {l : Af} {n B:Nat} (hn:n≤8) (hB:∀ x,StdX l n x→BN n 0 x<B):(∀ x,MemE x (Lc l n B)↔StdX l n x)∧(Lc l n B).Pairwise fun a b=>¬ Eqv a b:=by
 have hst:∀ {m:Nat→Int},m∈Lc l n B→StdX l n m:=fun {m} h=>by
  obtain ⟨h1,_,h3⟩:=Gu.1 h
  exact ⟨fun j hj=>⟨h1.1 j,fun h=>h1.2 j (by omega)⟩,h3⟩
 refine ⟨fun x=>⟨fun ⟨a,ha,e⟩=>(hst ha).congr e,fun hx=>?_⟩,?_⟩
 ·have hc:=hx.congr (FN x).symm
  refine ⟨fun j=>if j<n then Ev x j else 0,Gu.2 ⟨⟨fun j=>?_,fun j hj=>?_⟩,?_,?_⟩,fun j hj=>?_⟩
  ·show 0≤if j<n then Ev x j else 0
   split
   ·by_cases h8:j<8
    ·exact (hc.1 j h8).1
    ·unfold Ev
     rw [if_neg h8]
     omega
   ·omega
  ·show (if j<n then Ev x j else 0) = 0
   rw [if_neg (by omega)]
  ·rw [GT (m' := Ev x) fun j _ hj => if_pos (by omega)]
   exact hB _ hc
  ·have e:Eqv x fun j=>if j<n then Ev x j else 0:=fun j hj=>by
    show x j = if j<n then Ev x j else 0
    split
    ·exact (FN x j hj).symm
    ·exact (hx.1 j hj).2 (by omega)
   exact (hx.congr e).2
  ·show (if j<n then Ev x j else 0) = x j
   split
   ·exact FN x j hj
   ·exact ((hx.1 j hj).2 (by omega)).symm
 ·refine List.Pairwise.imp_of_mem ?_ (JP l n B)
  intro a b ha hb hne e
  refine hne (funext fun j=>?_)
  by_cases h8:j<8
  ·exact e j h8
  ·obtain ⟨h1,_,_⟩:=Gu.1 ha
   obtain ⟨h2,_,_⟩:=Gu.1 hb
   rw [h1.2 j (.inr (by omega)),h2.2 j (.inr (by omega))]
theorem WS {l : Af} {n d:Nat} (h:∀ x,StdX l n x→BN n 0 x ≠ d):hN n d l = 0:=by
 rw [← Kn,Jx]
 have:(rM n 0 d).filter (fun m => !inB l m) = []:=by
  rw [List.filter_eq_nil_iff]
  intro m hm hi
  obtain ⟨h1,h2⟩:=Fw.1 hm
  exact h m ⟨fun j hj=>⟨h1.1 j,fun h=>h1.2 j (by omega)⟩,by simpa using hi⟩ h2
 rw [this]
 rfl
theorem TP {p : Nat→Int} {M B:Nat} (hM:∀ i,M≤i→p i = 0) (hB:∀ i,B≤i→p i = 0):BE M p = BE B p:=(show FS p B (BE B p) from ⟨hB,rfl⟩).sum_eq hM
theorem LT {l K:Af} {n N B:Nat} {f:Nat→Int} (hc:HilC l n N f) (hn:n≤8) (h2:∀ y∈l,SupN n y) (hd:Fy l n≤0) (hK:∀ x,MemE x K↔StdX l n x) (hp:K.Pairwise fun a b=>¬ Eqv a b) (hB:∀ x,StdX l n x→BN n 0 x<B):WZ l n N f = ((K.length:Nat):Int):=by
 rw [Sl hn hK hp hB]
 have hz:∀ i,B≤i→hN n i l = 0:=fun i hi=>WS fun x hx e=>by
  have:=hB x hx
  omega
 have hnum:∀ d,CD n f d = hN n d l:=fun d=>hc.num.num n hn h2 d
 have hge:-1≤Fy l n:=(MT _).1
 by_cases h0:Fy l n = 0
 ·have h1:Fy l n = ((0:Nat):Int):=h0
  unfold WZ
  rw [if_neg (by omega),h0]
  show BE (cN N f (n - 0)).1 (CD (n - 0) f) = _
  have h3:=hc.far 0 h1
  have e:CD (n - 0) f = fun d=>hN n d l:=by rw [Nat.sub_zero];exact funext hnum
  rw [e] at h3 ⊢
  exact TP h3 hz
 ·have h1 : Fy l n = -1 := by omega
  unfold WZ
  rw [if_pos (by omega)]
  obtain ⟨c,hs⟩:=Rj hn h2 hc.num.num
  rcases hs with ⟨_,_,h3⟩ | ⟨m,_,_,h3,_⟩
  ·refine (CH fun d _=>?_).symm
   rw [← hnum,h3]
  ·have h3:Fy l n = (m:Int):=h3
   omega
theorem QV {l : Af} {n N E:Nat} {f:Nat→Int} (hc:HilC l n N f) (hn:n≤8) (h2:∀ y∈l,SupN n y) (hE:∀ a∈l,∀ j,j<8→a j≤(E:Int)+1) (hd:Fy l n≤0):(∀ S,IsStd l n S→WZ l n N f = ((S.length:Nat):Int))∧WZ l n N f≤(((E+1) ^ n:Nat):Int):=by
 have hb:=Pv hn h2 hE hd
 have hB:∀ x,StdX l n x→BN n 0 x<n*E+1:=fun x hx=>by
  have:=PR (x:=x) (B:=E) n 0 fun j _ h=>hb x hx j (by omega)
  omega
 have hpw:∀ S,IsStd l n S→S.Pairwise fun a b=>¬ Eqv a b:=fun S hS=>hS.1.imp fun {a b} h e=>by
  rw [Fp.2 e] at h
  exact absurd h (by decide)
 refine ⟨fun S hS=>LT hc hn h2 hd hS.2 (hpw S hS) hB,?_⟩
 obtain ⟨g1,g2⟩:=Wn hn hB
 rw [LT hc hn h2 hd g1 g2 hB]
 have:=QW hn (fun x hx=>(g1 x).1 ⟨x,hx,Eqv.refl x⟩) g2 hb
 exact_mod_cast this
theorem OR {l : Af} {n N E:Nat} {f:Nat→Int} (hc:HilC l n N f) (hn:n≤8) (hl:l.length≤1000) (h2:∀ y∈l,SupN n y) (hE:∀ a∈l,∀ j,j<8→a j≤(E:Int)+1) (hE2:E≤1000) (hd:Fy l n≤0) (hbox:(E+1) ^ n≤1000):Abs Tryz.prog 28 [BF l,ex (.int .i64 (n:Nat))] (DP [Nz (IsStd l n) BF,ex (.int .i64 0)]):=by
 have hb:=Pv hn h2 hE hd
 refine Ta l n E _ _ hn hl hb hE2 (fun K hK hp=>?_) hd ?_ hc.ck hc.cd hc.cg
 ·have:=QW hn (fun x hx=>(hK x).1 ⟨x,hx,Eqv.refl x⟩) hp hb
  omega
 ·have:=(QV hc hn h2 hE hd).2
  omega
theorem IsStd.same {l : Af} {n:Nat} {S S':Af} (h:IsStd l n S) (h':IsStd l n S'):BF S = BF S':=by
 have hd:∀ {S:Af},(S.Pairwise fun a b=>lx a b<0)→Vt S.reverse:=fun {S} h=>by
  unfold Vt
  rw [List.pairwise_reverse]
  refine h.imp fun {a b} h=>?_
  rw [Es]
  omega
 have hm:∀ (S:Af) x,MemE x S.reverse↔MemE x S:=fun S x=>⟨fun ⟨a,ha,e⟩=>⟨a,List.mem_reverse.1 ha,e⟩,fun ⟨a,ha,e⟩=>⟨a,List.mem_reverse.2 ha,e⟩⟩
 have hs:=ID (hd h.1) (hd h'.1) fun x=>(hm S x).trans ((h.2 x).trans ((h'.2 x).symm.trans (hm S' x).symm))
 have key:∀ {l l':Af},SameM l l'→l.map AE = l'.map AE:=by
  intro l
  induction l with
  | nil =>
   intro l' h
   cases l' with
   | nil=>rfl
   | cons b l'=>exact h.elim
  | cons a l ih =>
   intro l' h
   cases l' with
   | nil=>exact h.elim
   | cons b l'=>rw [List.map_cons,List.map_cons,NT h.1,ih h.2]
 have h3:=congrArg List.reverse (key hs)
 rw [List.map_reverse,List.map_reverse,List.reverse_reverse,List.reverse_reverse] at h3
 rw [BF,BF,h3]
end Go.Proofs.YtialdhnijjnpaaaGreat
