/- Part 24 of the proof of hilbertDimensions_holds. No condition. -/
import Derived.Test.YtialdhnijjnpaaaGreatQc21
import Derived.Test.YtialdhnijjnpaaaGreatQc23
set_option linter.unusedSimpArgs false
set_option linter.unusedVariables false
set_option maxRecDepth 100000
set_option maxHeartbeats 4000000
namespace Go.Proofs.YtialdhnijjnpaaaGreat
open Go.RowKit
theorem OU (n : Nat) (hn:3≤n) (g:Nat) (lb:Array Value) (eg:∀ args w,(callFunc g args).run Tryz.prog w = .ok (.enter g args) w)
  (S:List (Nat→Int)→Prop) (N:Nat) (hN:N≤1000000000) (w:World) (hseq:SeqGives Fence.wide (n - 1 - 1) Tryz.prog g lb Lk S N w) :
  CallsIn Fence.wide n Tryz.prog 123 #[.func (.func g) #[] lb] w fun e w'=>∃ (v:Value) (ss:List (Nat→Int)),e = .returned v∧S ss∧w'.ownsRow w.heap.size 55 8 v ss.length (FD ss)∧Below w.heap.size w w':=by
 have h1:1≤n:=by omega
 have hf147:Fence.wide.fn 147:=trivial
 have e11:∀ args w,(callFunc 147 args).run Tryz.prog w = .ok (.enter 147 args) w:=As Tryz.func147 (by kernel_rfl) (by kernel_rfl)
 refine callsIn_of_wp Tryz.func123 rfl trivial ?_
 simp only [Tryz.ntmps123,List.size_toArray,List.length_cons,List.length_nil,Nat.reduceAdd,Nat.reduceSub,Array.replicate_succ,Array.replicate_zero,List.push_toArray,List.append_toArray,List.nil_append,List.cons_append]
 gi_wp2_with (gi_at_call 147;refine (Ll (n - 1) (by omega) g lb eg S N hN _ hseq).mono ?_;rintro e w' ⟨v,ss,rfl,hS,hrow,hb⟩)
 go_ret
 exact ⟨v,ss,rfl,hS,hrow,hb⟩
theorem Ox (n : Nat) (hn:1≤n) (Bm b clock:Nat) (es:Array MapEntry) (K:List (Nat→Int)) (w:World) (hBm:Bm<w.heap.size) (hm:w.cell? ⟨Bm,0,none⟩ = some (.map (some b))) (hb:w.heap[b]? = some (.map es clock)) (hkeys:es.toList.map (·.key) = K.map Lk) (hborn:∀ x∈es.toList,x.born<clock) (hnd:(es.toList.map (·.born)).Nodup) :
  SeqGives Fence.wide n Tryz.prog 125 #[.pointer (some ⟨Bm,0,none⟩)] Lk (fun ss=>ss.Perm K) K.length w:=fun l J W hW hJ hY h0 =>
 SO n hn l Bm b clock es K J hY W hJ ((hW.cell (p:=⟨Bm,0,none⟩) hBm).trans hm) ((hW.block b (At hb)).trans hb) hkeys hborn hnd h0
abbrev Hi (E : List KD):Ae:=E.map (·.1)
theorem UZ (ss : Ae) {i j:Nat} (hi:i<ss.length) (hj:j<8):(FD ss)[i*8+j]? = some (.int .i64 (Ba ss i j)):=by
 induction ss generalizing i with
 | nil=>simp at hi
 | cons a ss ih =>
  have e:FD (a :: ss) = (c8 a).toList ++ FD ss:=rfl
  have hl:(c8 a).toList.length = 8:=rfl
  cases i with
  | zero =>
   rw [e,Nat.zero_mul,Nat.zero_add,List.getElem?_append_left (by omega)]
   have:j = 0∨j = 1∨j = 2∨j = 3∨j = 4∨j = 5∨j = 6∨j = 7:=by omega
   rcases this with rfl | rfl | rfl | rfl | rfl | rfl | rfl | rfl <;> rfl
  | succ i =>
   rw [e,List.getElem?_append_right (by omega),hl,show (i+1)*8+j - 8 = i*8+j by omega]
   exact ih (by simpa using hi)
abbrev Lb : TypeId:=96
theorem LZ (E : List KD) (hE:E.length≤1000000):Con Tryz.prog 123 [.fn 125 [0]] [.var Lb [.own 1],.obj (De E)] []
  (fun r hp'=>∃ ss:Ae,ss.Perm (Hi E)∧((ss = []∧r = .d (BG [])∧hp' = [.var Lb [.own 1],.obj (De E)])∨∃ g c,0<ss.length∧ss.length≤c∧c≤9223372036854775807∧r = .d (sX g ss.length c)∧hp' = [.var Lb [.own 1],.obj (De E),.obj (Bl [⟨g,55,Eg ss⟩])])):=by
 refine ⟨As Tryz.func123 (by kernel_rfl) (by kernel_rfl),fun s ρ vs hok hhp hsep hl hv=>?_⟩
 obtain ⟨_,e1⟩:=hv 0 _ rfl
 have hvar:=hhp 0 _ rfl
 obtain ⟨Bm,cs0,hρ0,_,hB,hsz0,_,hnS0,hcell0⟩:=hvar
 obtain ⟨u0,hu0,_,_,hu1⟩:=hcell0 0 _ rfl
 obtain ⟨b,hρ1,⟨es,clock,hb,hkeys,hvals,hborn,hnd,hpw⟩⟩:=hhp 1 _ rfl
 have evs:vs.toArray = #[.func (.func 125) #[] #[.pointer (some ⟨Bm,0,none⟩)]]:=by
  match vs,hl with
  | [a],_ =>
   have e1:a = _:=e1
   rw [e1,List.map_cons,List.map_nil,hρ0]
 have hm:s.w.cell? ⟨Bm,0,none⟩ = some (.map (some b)):=by
  rw [AL hB,hu0,hu1,hρ1]
 have hkeys':es.toList.map (·.key) = (Hi E).map Lk:=by
  rw [hkeys,List.map_map]
  rfl
 have hseq:=Ox 1 (Nat.le_refl 1) Bm b clock es (Hi E) s.w (At hB) hm hb hkeys' hborn hnd
 have hcon:=(OU 3 (Nat.le_refl 3) 125 #[.pointer (some ⟨Bm,0,none⟩)] (As Tryz.func125 (by kernel_rfl) (by kernel_rfl)) (fun ss=>ss.Perm (Hi E)) (Hi E).length (by rw [List.length_map];omega) s.w hseq)
 rw [evs]
 refine (callsIn_wide.1 hcon).mono ?_
 rintro e w' ⟨v,ss,rfl,hperm,⟨hlen,hown⟩,hbel⟩
 have hBl:=At hB
 have hbl:=At hb
 by_cases h0:ss = []
 ·subst h0
  let s':GS:=s.grown w'
  have hext:Ext s.w w':=⟨hbel.os,hbel.tape,hbel.output,hbel.size,fun k hk=>hbel.block k hk⟩
  have hle:GS.Le s s':=Ez hext
  have hvd:(BG []).rel s' v:=by
   rcases hown with ⟨rfl,_⟩ | ⟨g,cap,cur,rfl,h1,h2,h3,h4,h5,h6⟩
   ·exact slD.nil _ _ _
   ·exact ⟨_,cap,rfl,Nat.zero_le _,by simpa [maxLen] using h4,fun h=>absurd h (by simp)⟩
  refine ⟨v,rfl,s',ρ,.d (BG []),[.var Lb [.own 1],.obj (De E)],⟨[],hperm,.inl ⟨rfl,rfl,rfl⟩⟩,rfl,hvd,⟨⟨hle.ext.os,hle.ext.tape,hle.ext.output,fun k hk _=>hle.ext.block hk,hle.chg,fun b k hb _=>hle.old b k hb,hle.tag,hle.ok⟩,hle.ok hok,fun i o hi=>(hhp i o hi).le hle,fun i j o o' hij hi hj b hbi hbj=>hsep i j o o' hij hi hj b (OwB.le (hhp i o hi) hle hbi) (OwB.le (hhp j o' hj) hle hbj),fun i o b hi hb=>.inl ⟨i,o,hi,OwB.le (hhp i o hi) hle hb⟩,fun _ _ _=>rfl,Nat.le_refl _⟩⟩
 ·have hpos:0<ss.length:=List.length_pos_iff.2 h0
  obtain ⟨g,cap,cur,rfl,hg0,hg,hc1,hc2,hcs,htake⟩:∃ g cap cur,v = .slice (some ⟨g,0,none⟩) ss.length cap∧s.w.heap.size≤g∧w'.heap[g]? = some (.cells cur 55 (0,0))∧ss.length≤cap∧cap≤maxLen∧cur.size = cap*8∧cur.toList.take (ss.length*8) = FD ss:=by
   rcases hown with ⟨_,h⟩ | h
   ·omega
   ·exact h
  let s':GS:=⟨fun b k=>s.S b k∨(s.w.heap.size≤b∧b<w'.heap.size∧b ≠ g),s.tag,w'⟩
  have hchg:GS.Chg s s':=⟨hbel.size,fun _ _ h=>.inl h,fun b cs T fz hb=>⟨cs,fz,(hbel.block b (At hb)).trans hb,fun _ _=>rfl⟩⟩
  have hok':s'.Ok:=⟨fun b k hb=>hb.elim (fun h=>Nat.lt_of_lt_of_le (hok.lt b k h) hbel.size) fun h=>h.2.1,fun b k ⟨c2,fz,hb⟩=>by
   have hb:w'.heap[b]? = some (.cells c2 136 fz):=hb
   rcases Nat.lt_or_ge b s.w.heap.size with h1 | h1
   ·exact .inl (hok.safe b k ⟨c2,fz,(hbel.block b h1).symm.trans hb⟩)
   ·refine .inr ⟨h1,At hb,fun e=>?_⟩
    subst e
    rw [hg] at hb
    exact absurd (Obj.cells.inj (Option.some.inj hb)).2.1 (by decide)⟩
  have hold:∀ b k,b<s.w.heap.size→s'.S b k→s.S b k:=fun b k hb h=>h.elim (fun h=>h) fun h=>absurd hb (by omega)
  have hfar:∀ i o,[Ow.var Lb [.own 1],.obj (De E)][i]? = some o→∀ b,OwB s (ρ i) o b→s'.w.heap[b]? = s.w.heap[b]? ∧ ∀ k,s'.S b k↔s.S b k:=fun i o hi b hbo=>by
   have hlt:=(hhp i o hi).blk_lt0 hbo
   exact ⟨hbel.block b hlt,fun k=>⟨hold b k hlt,.inl⟩⟩
  have hback:∀ i o,[Ow.var Lb [.own 1],.obj (De E)][i]? = some o→∀ b,OwB s' (ρ i) o b→OwB s (ρ i) o b:=fun i o hi b hb=>OwB.keep (hhp i o hi) hchg (hfar i o hi) hb
  have hget:∀ i o,[Ow.var Lb [.own 1],.obj (De E),.obj (Bl [⟨g,55,Eg ss⟩])][i]? = some o→(i<2∧[Ow.var Lb [.own 1],.obj (De E)][i]? = some o)∨(i = 2∧o = .obj (Bl [⟨g,55,Eg ss⟩])):=fun i o hi=>by
   match i,hi with
   | 0,hi=>exact .inl ⟨by omega,hi⟩
   | 1,hi=>exact .inl ⟨by omega,hi⟩
   | 2,hi=>cases hi;exact .inr ⟨rfl,rfl⟩
  have hown2:∀ b,OwB s' (ρ 2) (.obj (Bl [⟨g,55,Eg ss⟩])) b→b = g:=fun b ⟨x,hx,e⟩=>by
   rw [List.mem_singleton.1 hx] at e
   exact e.symm
  refine ⟨_,rfl,s',ρ,.d (sX g ss.length cap),[.var Lb [.own 1],.obj (De E),.obj (Bl [⟨g,55,Eg ss⟩])],⟨ss,hperm,.inr ⟨g,cap,hpos,hc1,by simpa [maxLen] using hc2,rfl,rfl⟩⟩,rfl,rfl,⟨⟨hbel.os,hbel.tape,hbel.output,fun k hk _=>hbel.block k hk,hchg,fun b k hb _=>hold b k hb,fun _ _=>rfl,fun _=>hok'⟩,hok',fun i o hi=>?_,fun i j o o' hij hi hj b hbi hbj=>?_,fun i o b hi hb=>?_,fun _ _ _=>rfl,by simp⟩⟩
  ·rcases hget i o hi with ⟨h2,hi⟩ | ⟨rfl,rfl⟩
   ·exact ((hhp i o hi).keep hchg (hfar i o hi)).mono (by simp) (fun _ _=>rfl) h2
   ·refine ⟨fun x hx => ?_, by simp⟩
    rw [List.mem_singleton.1 hx]
    refine ⟨(by decide:(55:TypeId) ≠ 136),fun k hk=>hk.elim (fun h=>absurd (hok.lt g k h) (by omega)) fun h=>h.2.2 rfl,cur,hg,?_,fun k hk=>?_⟩
    ·show (Eg ss).length≤_
     rw [CY,hcs]
     exact Nat.mul_le_mul_right 8 hc1
    ·have hk:k<(Eg ss).length:=hk
     rw [CY] at hk
     have e5:Bw (Eg ss) k = ex (.int .i64 (Ba ss (k / 8) (k % 8))):=by
      have:=IA ss (i:=k / 8) (j:=k % 8) (by omega) (by omega)
      rwa [show k / 8*8+k % 8 = k by omega] at this
     have e6:cur[k]? = some (.int .i64 (Ba ss (k / 8) (k % 8))):=by
      have h7:=UZ ss (i:=k / 8) (j:=k % 8) (by omega) (by omega)
      rw [show k / 8*8+k % 8 = k by omega,← htake,List.getElem?_take,if_pos (by omega)] at h7
      simpa using h7
     exact ⟨_,e6,rfl,by show (Bw (Eg ss) k).rel s' _;rw [e5];rfl⟩
  ·rcases hget i o hi with ⟨h2,hi⟩ | ⟨rfl,rfl⟩
   ·rcases hget j o' hj with ⟨h3,hj⟩ | ⟨rfl,rfl⟩
    ·exact hsep i j o o' hij hi hj b (hback i o hi b hbi) (hback j o' hj b hbj)
    ·have:=(hhp i o hi).blk_lt0 (hback i o hi b hbi)
     have:=hown2 b hbj
     omega
   ·rcases hget j o' hj with ⟨h3,hj⟩ | ⟨rfl,rfl⟩
    ·have:=(hhp j o' hj).blk_lt0 (hback j o' hj b hbj)
     have:=hown2 b hbi
     omega
    ·exact absurd rfl hij
  ·rcases hget i o hi with ⟨h2,hi⟩ | ⟨rfl,rfl⟩
   ·exact .inl ⟨i,o,hi,hback i o hi b hb⟩
   ·exact .inr (by have:=hown2 b hb;omega)
theorem HD {P : Program} {f:FuncId} {fn:Func} {c:Code} {args:List AV} {Q:AV→List Ow→Prop} (hf:P.funcs[f]? = some fn) (hb:fn.body = some c) (hcf:∀ args w,(callFunc f args).run P w = .ok (.enter f args) w) (hn:Nat.ble args.length fn.ntmps = true) {o0 o1 o2 o3 o4:Ow} (h:∀ (s0:An) (v0 v1 v2 v3 v4:Value),AWp P s0 fn.ntmps c (FinC P fn [] [v0,v1,v2,v3,v4] Q) ⟨Fd 0 args,[o0,o1,o2,o3,o4,.pin [(v0,.own 0),(v1,.own 1),(v2,.own 2),(v3,.own 3),(v4,.own 4)]]⟩):Con P f args [o0,o1,o2,o3,o4] [] Q :=
 Gd hf hb hcf hn fun s0 vs hv=>by
  match vs,hv with
  | [v0,v1,v2,v3,v4],_=>exact h s0 v0 v1 v2 v3 v4
theorem Tf : Con Tryz.prog 123 [.fn 125 [0]] [.var Lb [.own 1],.obj (De [])] [] (fun r hp'=>r = .d (BG [])∧hp' = [.var Lb [.own 1],.obj (De [])]):=by
 refine (LZ [] (by decide)).mono fun r hp' ⟨ss,hp,h⟩=>?_
 have h0:ss = []:=hp.eq_nil
 rcases h with ⟨_,h1,h2⟩ | ⟨g,c,h1,_⟩
 ·exact ⟨h1,h2⟩
 ·subst h0
  exact absurd h1 (by decide)
theorem Te (E : List KD) (h0:0<E.length) (hE:E.length≤1000000):Con Tryz.prog 123 [.fn 125 [0]] [.var Lb [.own 1],.obj (De E)] [] (fun r hp'=>∃ (ss:Ae) (g c:Nat),ss.Perm (Hi E)∧ss.length≤c∧c≤9223372036854775807∧r = .d (sX g ss.length c)∧hp' = [.var Lb [.own 1],.obj (De E),.obj (Bl [⟨g,55,Eg ss⟩])]):=by
 refine (LZ E hE).mono fun r hp' ⟨ss,hp,h⟩=>?_
 rcases h with ⟨h1,_,_⟩ | ⟨g,c,h1,h2,h3,h4,h5⟩
 ·subst h1
  have:=hp.length_eq
  rw [List.length_map] at this
  simp at this
  omega
 ·exact ⟨ss,g,c,hp,h2,h3,h4,h5⟩
theorem NG (E : List KD) (hE:E.length≤1000000):Con Tryz.prog 72 [.fn 125 [0],.d (ex (.func (.func 74) #[] #[]))] [.var Lb [.own 1],.obj (De E)] [] (fun r hp'=>∃ (S:Ae) (tl:List Ow),S.Perm (Hi E)∧(S.Pairwise fun a b=>lx a b≤0)∧r = .d (BG S)∧hp' = [.var Lb [.own 1],.obj (De E),.dead] ++ tl∧(tl = []∨tl = [.dead])):=by
 by_cases h0:E = []
 ·subst h0
  refine HF Tryz.func72 rfl (As Tryz.func72 (by kernel_rfl) (by kernel_rfl)) rfl fun s0 pv0 pv1=>?_
  rw [Tryz.ntmps72]
  refine Y1<|Wa<|Y0<|Y1<|Wm ?_
  refine Be [0,1] [] (Tf) (by first | exact Or.inl rfl | exact Or.inr ⟨by decide,rfl,by repeat (first | exact AvoidR.nil | refine AF rfl ?_ | refine AvoidR.dead ?_ | refine AM ?_ | refine AvoidR.obj ?_ | refine AD ?_ | refine AE rfl ?_ | refine AvoidR.pin rfl ?_)⟩) rfl rfl (by first | exact .inl ⟨rfl,rfl⟩ | exact .inr ⟨rfl,rfl⟩) (by repeat (first | exact ArgsC.nil | refine ArgsC.d rfl (D.le.refl _) ?_ | refine AR rfl rfl ?_)) (by decide) (by repeat (first | exact SelR.nil | refine SelR.var rfl ?_ | refine SelR.obj rfl ?_ | refine Bb rfl ?_ | refine AP rfl rfl rfl ?_)) (by repeat (first | exact trivial | refine ⟨⟨_,_,rfl⟩,?_⟩)) rfl ?_
  rintro _ _ ⟨rfl,rfl⟩
  refine ⟨_,_,_,(by first | exact AVRen.d | exact AVRen.own rfl | exact AVRen.ptr rfl | exact AVRen.fn rfl),(by repeat (first | exact SetR.nil | (apply SetR.cons;(first | exact OwRen.dead | exact Aj | exact OwRen.obj | exact Ar | exact Ak rfl);exact rfl))),(by repeat (first | exact AppR.nil | (apply AppR.cons;(first | exact OwRen.dead | exact Aj | exact OwRen.obj | exact Ar | exact Ak rfl);exact rfl))),?_⟩
  try simp only [AZ,Bh]
  refine Wa<|Y0<|Y1<|Wm<|Wm ?_;refine Wq (Ao (LA)) ?_;refine Y0<|Y1<|Wm<|Wa<|Y0 ?_;apply Aw
  refine Bk (RetsA.one rfl) rfl ?_ rfl
  exact ⟨[],[],List.Perm.refl _,List.Pairwise.nil,rfl,rfl,.inl rfl⟩
 ·have hpos:0<E.length:=List.length_pos_iff.2 h0
  refine HF Tryz.func72 rfl (As Tryz.func72 (by kernel_rfl) (by kernel_rfl)) rfl fun s0 pv0 pv1=>?_
  rw [Tryz.ntmps72]
  refine Y1<|Wa<|Y0<|Y1<|Wm ?_
  refine Be [0,1] [] (Te E hpos hE) (by first | exact Or.inl rfl | exact Or.inr ⟨by decide,rfl,by repeat (first | exact AvoidR.nil | refine AF rfl ?_ | refine AvoidR.dead ?_ | refine AM ?_ | refine AvoidR.obj ?_ | refine AD ?_ | refine AE rfl ?_ | refine AvoidR.pin rfl ?_)⟩) rfl rfl (by first | exact .inl ⟨rfl,rfl⟩ | exact .inr ⟨rfl,rfl⟩) (by repeat (first | exact ArgsC.nil | refine ArgsC.d rfl (D.le.refl _) ?_ | refine AR rfl rfl ?_)) (by decide) (by repeat (first | exact SelR.nil | refine SelR.var rfl ?_ | refine SelR.obj rfl ?_ | refine Bb rfl ?_ | refine AP rfl rfl rfl ?_)) (by repeat (first | exact trivial | refine ⟨⟨_,_,rfl⟩,?_⟩)) rfl ?_
  rintro _ _ ⟨ss,g,c,hperm,hc1,hc2,rfl,rfl⟩
  refine ⟨_,_,_,(by first | exact AVRen.d | exact AVRen.own rfl | exact AVRen.ptr rfl | exact AVRen.fn rfl),(by repeat (first | exact SetR.nil | (apply SetR.cons;(first | exact OwRen.dead | exact Aj | exact OwRen.obj | exact Ar | exact Ak rfl);exact rfl))),(by repeat (first | exact AppR.nil | (apply AppR.cons;(first | exact OwRen.dead | exact Aj | exact OwRen.obj | exact Ar | exact Ak rfl);exact rfl))),?_⟩
  try simp only [AZ,Bh]
  have hsl:ss.length≤1000000:=by
   have:=hperm.length_eq
   rw [List.length_map] at this
   omega
  refine Wa<|Y0<|Y1<|Wm<|Wm ?_
  refine Be [3] [] (Lz ss g c hsl) (by first | exact Or.inl rfl | exact Or.inr ⟨by decide,rfl,by repeat (first | exact AvoidR.nil | refine AF rfl ?_ | refine AvoidR.dead ?_ | refine AM ?_ | refine AvoidR.obj ?_ | refine AD ?_ | refine AE rfl ?_ | refine AvoidR.pin rfl ?_)⟩) rfl rfl (by first | exact .inl ⟨rfl,rfl⟩ | exact .inr ⟨rfl,rfl⟩) (by repeat (first | exact ArgsC.nil | refine ArgsC.d rfl (D.le.refl _) ?_ | refine AR rfl rfl ?_)) (by decide) (by repeat (first | exact SelR.nil | refine SelR.var rfl ?_ | refine SelR.obj rfl ?_ | refine Bb rfl ?_ | refine AP rfl rfl rfl ?_)) (by repeat (first | exact trivial | refine ⟨⟨_,_,rfl⟩,?_⟩)) rfl ?_
  rintro _ _ ⟨S,hS1,hS2,rfl,rfl⟩
  refine ⟨_,_,_,(by first | exact AVRen.d | exact AVRen.own rfl | exact AVRen.ptr rfl | exact AVRen.fn rfl),(by repeat (first | exact SetR.nil | (apply SetR.cons;(first | exact OwRen.dead | exact Aj | exact OwRen.obj | exact Ar | exact Ak rfl);exact rfl))),(by repeat (first | exact AppR.nil | (apply AppR.cons;(first | exact OwRen.dead | exact Aj | exact OwRen.obj | exact Ar | exact Ak rfl);exact rfl))),?_⟩
  try simp only [AZ,Bh]
  have hSl:S.length = ss.length:=hS1.length_eq
  refine Dk (EV (R:=BG S) 3 5 rfl rfl rfl rfl fun s' hs v hv=>?_) ?_
  ·rw [← hSl] at hv hc1
   exact PX (hs _ List.mem_cons_self) hc1 hc2 hv
  refine Y0<|Y1<|Wm<|Wa<|Y0 ?_;apply Aw
  refine Bk (RetsA.one rfl) rfl ?_ rfl
  exact ⟨S,[.dead],hS1.trans hperm,hS2,rfl,rfl,.inr rfl⟩
section
variable {hp : List Ow} {arg:Operand→AV} {dd:Option Tmp} {ty:TypeId} {ps:String} {af:Array Edge} {gd:Option (Nat × Bool)}
theorem Ml {m x:Operand} {mt vt:TypeId} {id:Nat} {E:List KD} {a:Nat→Int} {d:TypeDesc} {n b n' b':Nat} {z z0:Value} (hn:∀ t∈E,¬ Eqv a t.1) (hm:arg m = .own id) (hid:hp[id]? = some (.obj (De E))) (hx:arg x = .d (Ca (AQ a))) (hmt:Tab Tryz.prog mt (.map 55 vt) n b z) (hvt:Tab Tryz.prog vt d n' b' z0):Quiet Tryz.prog hp ⟨dd,.lookup mt m x false,ty,ps,af,gd⟩ arg (.d (ex z0)):=by
 refine ⟨fun base s ρ ev hok hbs hhp h=>?_⟩
 have h2:=h m (by simp [Op.operands])
 have h3:=h x (by simp [Op.operands])
 rw [hm] at h2;rw [hx] at h3
 obtain ⟨g,e1,h4⟩:=Jm hhp h2 hid
 have e2:=CK h3
 have h5:=h4.look_none hmt.und hvt.run_zero hn false
 exact Bf (v:=z0) (by simp only [execOp,e1,e2,Sem.run_bind,h5,Result.andThen_ok,Sem.run_pure,Bool.false_eq_true,if_false]) ⟨GS.Le.refl s,rfl⟩
theorem Tw {m x:Operand} {mt vt:TypeId} {id:Nat} {E:List KD} {a:Nat→Int} {n b:Nat} {z:Value} {d:D} (i:Nat) (hi:i<E.length) (he:Eqv a (Gj E i).1) (hn:∀ j,j<i→¬ Eqv a (Gj E j).1) (hd:(Gj E i).2 = d) (hm:arg m = .own id) (hid:hp[id]? = some (.obj (De E))) (hx:arg x = .d (Ca (AQ a))) (hmt:Tab Tryz.prog mt (.map 55 vt) n b z):Quiet Tryz.prog hp ⟨dd,.lookup mt m x false,ty,ps,af,gd⟩ arg (.d d):=by
 subst hd
 refine ⟨fun base s ρ ev hok hbs hhp h=>?_⟩
 have h2:=h m (by simp [Op.operands])
 have h3:=h x (by simp [Op.operands])
 rw [hm] at h2;rw [hx] at h3
 obtain ⟨g,e1,h4⟩:=Jm hhp h2 hid
 have e2:=CK h3
 obtain ⟨v,h6,h5⟩:=h4.look_some hmt.und hi he hn false
 exact Bf (v:=v) (by simp only [execOp,e1,e2,Sem.run_bind,h5,Result.andThen_ok,Sem.run_pure,Bool.false_eq_true,if_false]) ⟨GS.Le.refl s,h6⟩
end
theorem Gp : Tab Tryz.prog Lb (.map 55 4) 1 8 (.map none):=⟨Tryz.underlying96,by kernel_rfl⟩
theorem Yx : Tab Tryz.prog 4 .bool 1 1 (.bool false):=⟨Tryz.underlying4,by kernel_rfl⟩
theorem QX : Tab Tryz.prog 97 (.func #[55] #[] false) 1 8 .nilFunc:=⟨Tryz.underlying97,by kernel_rfl⟩
abbrev clF : FuncId:=70
def bE (K : Ae):List KD:=K.map fun a=>(a,ex (.bool true))
theorem Qi (K : Ae):(bE K).length = K.length:=List.length_map ..
theorem Xy (K : Ae):Hi (bE K) = K:=by
 unfold bE
 rw [Hi,List.map_map]
 exact List.map_id' K
theorem A0s {K : Ae} {i:Nat} (h:i<(bE K).length):(Gj (bE K) i).2 = ex (.bool true):=by
 have h':i<K.length:=by rwa [Qi] at h
 unfold Gj bE
 rw [List.getD_eq_getElem?_getD,List.getElem?_map,List.getElem?_eq_getElem h']
 rfl
theorem Zo {K : Ae} {i:Nat} (h:i<(bE K).length):(Gj (bE K) i).1∈K:=by
 have h':i<K.length:=by rwa [Qi] at h
 unfold Gj bE
 rw [List.getD_eq_getElem?_getD,List.getElem?_map,List.getElem?_eq_getElem h']
 exact List.getElem_mem h'
theorem Xx (K : Ae) (m:Nat→Int):Hp (bE K) m (ex (.bool true)) none = bE (K ++ [m]):=by
 unfold bE Hp
 rw [List.map_append]
 rfl
abbrev Qe (l : Ae) (n:Nat) (K:Ae):List Ow:=[.var Lb [.own 1],.obj (De (bE K)),.var 28 ([BG l].map .d),.var 3 ([ex (.int .i64 (n:Nat))].map .d),.var 97 [.fn clF [0,2,3,4]]]
abbrev ColC (l : Ae) (n:Nat) (K:Ae) (m:Nat→Int):Prop:=Con Tryz.prog clF [.d (Ca (AQ m)),.ptr 0 0,.ptr 2 0,.ptr 3 0,.ptr 4 0] (Qe l n K) [] (fun r hp'=>∃ K',Dfs l n K m K'∧r = .d Cl∧hp' = Qe l n K' ++ [.dead])
theorem Vk (l : Ae) (n:Nat) (K:Ae) (tl:List Ow) (r:AV) (hp':List Ow) (Q:AV→List Ow→Prop) (hr:r = .d Cl) (hh:hp' = (Qe l n K ++ [.dead]) ++ tl) (hq:Q (.d Cl) (Qe l n K ++ [.dead])):∃ d hp2 tl,r = .d d∧hp' = hp2 ++ tl∧5≤hp2.length∧(∀ o∈hp2,Low hp2.length o)∧Q (.d d) hp2:=by
 refine ⟨Cl,_,tl,hr,hh,by simp,fun o ho=>?_,hq⟩
 simp only [List.cons_append,List.nil_append,List.mem_cons,List.not_mem_nil,or_false] at ho
 rcases ho with rfl | rfl | rfl | rfl | rfl | rfl
 ·refine Low.var fun av hav m' ρ s v h=>?_
  rw [List.mem_singleton.1 hav] at h ⊢
  exact ⟨by simp,h.2⟩
 ·exact fun _ _ _ _ h=>h
 ·exact UT
 ·exact UT
 ·refine Low.var fun av hav m' ρ s v h=>?_
  rw [List.mem_singleton.1 hav] at h ⊢
  exact ⟨fun i hi=>by
   simp only [List.mem_cons,List.not_mem_nil,or_false] at hi
   simp
   omega,h.2⟩
 ·exact Low.dead
theorem Nu {l : Ae} {n:Nat} {K:Ae} {m:Nat→Int} (h:Con Tryz.prog clF [.d (Ca (AQ m)),.ptr 0 0,.ptr 2 0,.ptr 3 0,.ptr 4 0] (Qe l n K) [] (fun r hp'=>r = .d Cl∧∃ K' tl,Dfs l n K m K'∧hp' = (Qe l n K' ++ [.dead]) ++ tl)):ColC l n K m :=
 h.cut fun r hp' ⟨h1,K',tl,h3,h2⟩=>Vk l n K' tl r hp' (fun r hp'=>∃ K',Dfs l n K m K'∧r = .d Cl∧hp' = Qe l n K' ++ [.dead]) h1 h2 ⟨K',h3,rfl,rfl⟩
theorem Vj (l : Ae) (n:Nat) (K:Ae) (m:Nat→Int) (hl:l.length≤1000000) (h:inB l m = true) (hno:∀ t∈bE K,¬ Eqv m t.1) (hp:K.Pairwise fun a b=>¬ Eqv a b):ColC l n K m:=by
 refine Nu ?_
 have ci:=Jq m l hl
 rw [h] at ci
 refine HD Tryz.func70 rfl (As Tryz.func70 (by kernel_rfl) (by kernel_rfl)) rfl fun s0 pv0 pv1 pv2 pv3 pv4=>?_
 rw [Tryz.ntmps70]
 apply Y1;refine Bx ?_;refine Y0<|Aa<|Y1 ?_;refine Wq (Ch (ao rfl) rfl Gp rfl rfl) ?_;refine Wq AU ?_;refine Wq (Ml hno (ao rfl) rfl (ao rfl) Gp Yx) ?_;refine Wm ?_;refine Wg AU ?_;refine Wg BO ?_;refine Wg (Ao (ci)) ?_;refine Wq By ?_;apply Y0;refine Ct ?_;apply Aw;apply AW
 refine Bk Em rfl ?_ rfl
 exact ⟨rfl,K,_,VZ h hp,rfl⟩
theorem OV (l : Ae) (n:Nat) (K:Ae) (m:Nat→Int) (i:Nat) (hi:i<(bE K).length) (he:Eqv m (Gj (bE K) i).1) (hn:∀ j,j<i→¬ Eqv m (Gj (bE K) j).1) (hpre:PreD l n K m) (hp:K.Pairwise fun a b=>¬ Eqv a b):ColC l n K m:=by
 refine Nu ?_
 refine HD Tryz.func70 rfl (As Tryz.func70 (by kernel_rfl) (by kernel_rfl)) rfl fun s0 pv0 pv1 pv2 pv3 pv4=>?_
 rw [Tryz.ntmps70]
 apply Y1;refine Bx ?_;refine Y0<|Aa<|Y1 ?_;refine Wq (Ch (ao rfl) rfl Gp rfl rfl) ?_;refine Wq AU ?_;refine Wq (Tw i hi he hn (A0s hi) (ao rfl) rfl (ao rfl) Gp) ?_;refine Wm ?_;refine Ws ?_;refine Ws ?_;refine Ws ?_;refine Wq AT ?_;apply Y0;refine Ct ?_;apply Aw;apply AW
 refine Bk Em rfl ?_ rfl
 exact ⟨rfl,K,_,VY ⟨_,Zo hi,he.symm⟩ hpre hp,rfl⟩
theorem WD (m : Nat→Int) (i:Nat):HN (PE m i) i (PE m i i - 1) = m:=by
 funext j
 unfold PE HN
 by_cases h:j = i
 ·subst h
  rw [if_pos rfl,if_pos rfl]
  omega
 ·rw [if_neg h,if_neg h]
theorem Zn (l : Ae) (n:Nat) (K:Ae) (m:Nat→Int) (hn8:n≤8) (hl:l.length≤1000000) (hs:StdX l n m) (hm:In8 m 0 10000) (hno:∀ t∈bE K,¬ Eqv m t.1) (hpre:PreD l n K m) (hp:K.Pairwise fun a b=>¬ Eqv a b) (ih:∀ (i:Nat) (K1:Ae),i<n→PreD l n K1 (PE m i)→(K1.Pairwise fun a b=>¬ Eqv a b)→ColC l n K1 (PE m i)):ColC l n K m:=by
 refine Nu ?_
 have ci:=Jq m l hl
 rw [hs.2] at ci
 have hK:∀ x∈K,¬ Eqv m x:=fun x hx=>hno (x,ex (.bool true)) (List.mem_map.2 ⟨x,hx,rfl⟩)
 have hst:=Xx K m
 refine HD Tryz.func70 rfl (As Tryz.func70 (by kernel_rfl) (by kernel_rfl)) rfl fun s0 pv0 pv1 pv2 pv3 pv4=>?_
 rw [Tryz.ntmps70]
 apply Y1;refine Bx ?_;refine Y0<|Aa<|Y1 ?_;refine Wq (Ch (ao rfl) rfl Gp rfl rfl) ?_;refine Wq AU ?_;refine Wq (Ml hno (ao rfl) rfl (ao rfl) Gp Yx) ?_;refine Wm ?_;refine Wg AU ?_;refine Wg BO ?_;refine Wg (Ao (ci)) ?_;refine Wq By ?_;apply Y0;refine Cf ?_;refine Ys<|Y1 ?_;refine Wq (Ch (ao rfl) rfl Gp rfl rfl) ?_;refine Wq AU ?_;refine We none (.no hno) (ao rfl) rfl (ao rfl) rfl Gp rfl ?_;refine Y0<|Y1 ?_;refine Wq BO ?_;refine Wm<|Y0<|AWp.block ?_
 rw [hst]
 skip
 refine AJ (fun mz σ=>∃ i,i≤n∧mz = n - i∧∃ K1,DfsI l n K m i K1∧σ = ⟨[(1,.ptr 0 0),(2,.ptr 2 0),(3,.ptr 3 0),(4,.ptr 4 0),(5,.ptr 6 0),(17,.d (ex (.int .i64 (n:Nat)))),(18,.d (ex (.int .i64 (i:Nat))))],[.var Lb [.own 1],.obj (De (bE K1)),.var 28 ([BG l].map .d),.var 3 ([ex (.int .i64 (n:Nat))].map .d),.var 97 [.fn clF [0,2,3,4]],.pin [(pv0,.own 0),(pv1,.own 1),(pv2,.own 2),(pv3,.own 3),(pv4,.own 4)],.var 55 ((AQ m).map .d)]⟩) ?le ⟨0,by omega,rfl,K ++ [m],DfsI.start hs hK hp,rfl⟩ ?round
 case le=>exact Ag (by exact Yp<|Yp<|Yp<|Yp<|Yp<|Yd<|Yd<|FrLe.nil) (by exact HpLe.cons (BJ rfl)<|HpLe.cons (OwLe.obj rfl)<|Yv<|Yv<|HpLe.cons (BJ rfl)<|HpLe.cons (Bc rfl)<|Yv<|HpLe.nil)
 case round =>
  rintro mz _ ⟨i,hi,rfl,K1,hD,rfl⟩
  by_cases hlt:i<n
  ·have hi8 : i < 8 := by omega
   have hmi:=hm i hi8
   have cc:=ih i K1 hlt (hD.pre hpre hi8) hD.pw
   apply Y1;refine Wq Am ?_;refine Y0<|Aa ?_;refine Ct ?_;refine Ys<|Aa<|AWp.block<|Y1<|Wm<|Wa<|Y0<|Y1<|Wm ?_;refine Wq CP ?_;refine Wq Db ?_;refine Wq EC ?_;refine Wq CP ?_;(refine GL (ao rfl) (ao rfl) rfl (Ac rfl) (by first | exact Dw rfl | exact One.sl | exact Fq) (SetAt.mon (by first | omega | (simp;omega))) rfl ?_);refine Y0<|Y1 ?_;refine Wq (Ch (ao rfl) rfl QX rfl rfl) ?_;refine Wq AU ?_
   refine Be [0,1,2,3,4] [0,2,3,4] (cc) (by first | exact Or.inl rfl | exact Or.inr ⟨by decide,rfl,by repeat (first | exact AvoidR.nil | refine AF rfl ?_ | refine AvoidR.dead ?_ | refine AM ?_ | refine AvoidR.obj ?_ | refine AD ?_ | refine AE rfl ?_ | refine AvoidR.pin rfl ?_)⟩) rfl rfl (by first | exact .inl ⟨rfl,rfl⟩ | exact .inr ⟨rfl,rfl⟩) (by repeat (first | exact ArgsC.nil | refine ArgsC.d rfl (D.le.refl _) ?_ | refine AR rfl rfl ?_)) (by decide) (by repeat (first | exact SelR.nil | refine SelR.var rfl ?_ | refine SelR.obj rfl ?_ | refine Bb rfl ?_ | refine AP rfl rfl rfl ?_)) (by repeat (first | exact trivial | refine ⟨⟨_,_,rfl⟩,?_⟩)) rfl ?_
   rintro _ _ ⟨K2,hD2,rfl,rfl⟩
   refine ⟨_,_,_,(by first | exact AVRen.d | exact AVRen.own rfl | exact AVRen.ptr rfl | exact AVRen.fn rfl),(by repeat (first | exact SetR.nil | (apply SetR.cons;(first | exact OwRen.dead | exact Aj | exact OwRen.obj | exact Ar | exact Ak rfl);exact rfl))),(by repeat (first | exact AppR.nil | (apply AppR.cons;(first | exact OwRen.dead | exact Aj | exact OwRen.obj | exact Ar | exact Ak rfl);exact rfl))),?_⟩
   try simp only [AZ,Bh]
   have hz:HN m i (m i+1) i = m i+1:=if_pos rfl
   refine Y0<|AWp.region<|Wm ?_;refine Wq CP ?_;refine Wq Db ?_;refine Wq HA ?_;refine Wq CP ?_;(refine GL (ao rfl) (ao rfl) rfl (Ac rfl) (by first | exact Dw rfl | exact One.sl | exact Fq) (SetAt.mon (by first | omega | (simp;omega))) rfl ?_);apply AWl.nil;apply Ai;refine Yn<|AWp.region ?_;refine Wq AH ?_;refine Wm ?_;apply AWl.nil
   refine ALoop.next (n - (i+1)) (by omega) ⟨i+1,by omega,rfl,K2,hD.step hD2,rfl⟩ ?_
   exact Ag (by exact Yp<|Yp<|Yp<|Yp<|Yp<|Yd<|Yd<|FrLe.nil) (by exact HpLe.cons (BJ rfl)<|HpLe.cons (OwLe.obj rfl)<|Yv<|Yv<|HpLe.cons (BJ rfl)<|HpLe.cons (Bc rfl)<|HpLe.cons (Du (by rw [WD]))<|HpLe.nil)
  ·obtain rfl : i = n := by omega
   apply Y1;refine Wq Aq ?_;refine Y0<|Aa ?_;refine Cf ?_;apply AG;apply Az;apply AA;apply AB
   refine GK Em rfl ?_ rfl
   exact ⟨rfl,K1,_,hD.done hn8 (fun j hj=>(hm j hj).1),rfl⟩
theorem Qd {x : Nat→Int} {B:Nat}:∀ (k i:Nat),(∀ j,i≤j→j<i+k→x j≤B)→Cy k i x≤k*B
 | 0,_,_=>Nat.zero_le _
 | k+1,i,h=>by
  have h1:=h i (Nat.le_refl i) (by omega)
  have h2:=Qd (B:=B) k (i+1) fun j a b=>h j (by omega) (by omega)
  rw [Cy,Nat.succ_mul]
  omega
theorem Xr (l : Ae) (n B:Nat) (hn8:n≤8) (hl:l.length≤1000000) (hB:∀ y,StdX l n y→∀ j,j<8→y j≤B) (hBs:B≤1000):∀ (k:Nat) (K:Ae) (m:Nat→Int),8*B+1≤Cy 8 0 m+k→(∀ j,j<8→0≤m j∧m j≤B+1∧(n≤j→m j = 0))→PreD l n K m→(K.Pairwise fun a b=>¬ Eqv a b)→ColC l n K m:=by
 intro k
 induction k with
 | zero =>
  intro K m hk hm hpre hp
  rcases UY (bE K) m with h | ⟨i,h1,h2,h3⟩
  ·cases hi:inB l m with
   | true=>exact Vj l n K m hl hi h hp
   | false =>
    have hs:StdX l n m:=⟨fun j hj=>⟨(hm j hj).1,(hm j hj).2.2⟩,hi⟩
    have:=Qd (x:=m) (B:=B) 8 0 fun j _ h=>hB m hs j (by omega)
    omega
  ·exact OV l n K m i h1 h2 h3 hpre hp
 | succ k ih =>
  intro K m hk hm hpre hp
  rcases UY (bE K) m with h | ⟨i,h1,h2,h3⟩
  ·cases hi:inB l m with
   | true=>exact Vj l n K m hl hi h hp
   | false =>
    have hs:StdX l n m:=⟨fun j hj=>⟨(hm j hj).1,(hm j hj).2.2⟩,hi⟩
    refine Zn l n K m hn8 hl hs (fun j hj=>?_) h hpre hp fun i K1 hin hpre1 hp1=>ih K1 (PE m i) ?_ (fun j hj=>?_) hpre1 hp1
    ·have:=hm j hj
     have:=hB m hs j hj
     omega
    ·rw [Zh m i (fun j hj => (hm j hj).1) (by omega)]
     omega
    ·have h1:=hm j hj
     have h2:=hB m hs j hj
     rw [JF]
     split
     ·rename_i e
      subst e
      omega
     ·omega
  ·exact OV l n K m i h1 h2 h3 hpre hp
section
variable {P : Program} {s0:An} {n:Nat} {ops:Array Oper} {Q:Exit→AS→Prop} {rest:List Oper} {fr:List (Nat × AV)} {hp hp':List Ow} {ty:TypeId} {ps:String} {af:Array Edge}
theorem Yj {T : TypeId} {x:Operand} {av:AV} {k t:Nat} (hx:AS.arg ⟨fr,hp⟩ x = av) (h1:One hp av) (hT:Nat.beq T 136 = false) (hd:Nat.blt t n = true) (hk:EP hp = some k) (hs:CR hp (.var T [av]) = some hp') (h:AWl P s0 n ops Q rest ⟨(t,.ptr k 0) :: fr,hp'⟩):AWl P s0 n ops Q (⟨some t,.box T x,ty,ps,af,none⟩ :: rest) ⟨fr,hp⟩:=by
 have hT':T ≠ 136:=Nat.ne_of_beq_eq_false hT
 rw [Cq hs] at h
 have hk':=Dl hk
 subst hk'
 refine AWl.step rfl fun s ρ a hst K hK=>?_
 have hv:AVr hp.length ρ s av (a.eval x):=by
  have:=hst.arg x
  rw [hx] at this
  exact this
 have h1v:(a.eval x).oneCell' = true:=h1 0 ρ s _ hst.hp hv
 obtain ⟨u,e1⟩:∃ u,a.eval x = u:=⟨_,rfl⟩
 rw [e1] at hv h1v
 have hcs:u.cells = #[u]:=by cases u <;> first | rfl | cases h1v
 have hrun:(execOp a.eval ⟨some t,.box T x,ty,ps,af,none⟩).run P s.w = .ok (.value (.pointer (some ⟨s.w.heap.size,0,none⟩))) (s.w.alloc (.cells #[u] T)):=by
  simp only [execOp,e1,Instr.box,Sem.run_bind,Ei,Result.andThen_ok,Sem.run_pure,hcs]
 unfold Oper.wp
 rw [hrun]
 have hle:=s.le_mk' #[u] T 0 hT'
 refine hK _ _ _ h ⟨s.mk' #[u] T 0,_,rfl,hst.new (dst:=some t) (r:=.ptr hp.length 0) (ow:=.var T [av]) hle (Fp (by simpa [PA] using hd)) (u:=.pointer (some ⟨s.w.heap.size,0,none⟩)) ⟨Nat.lt_succ_self hp.length,s.w.heap.size,by simp,rfl⟩ ?_ fun b hb=>by cases hb;exact Nat.le_refl _⟩
 refine ⟨s.w.heap.size,#[u],by simp,Nat.zero_le _,heap_alloc_new s.w _,by simp,hT',fun k hk=>absurd (hst.ok.lt _ _ hk) (Nat.lt_irrefl _),fun k av' hk=>?_⟩
 cases k with
 | zero =>
  cases hk
  exact ⟨u, by simp, h1v, (hv.chg hle.chg).mono (Nat.le_succ _) fun i hi => by
   have:i ≠ hp.length:=Nat.ne_of_lt hi
   simp [this]⟩
 | succ k=>cases hk
theorem VU {id : Nat} {E:List KD} (h:hp[id]? = some (.obj (De E))):One hp (.own id):=fun base ρ s v hh hv=>by
 obtain ⟨b,e,_⟩:=Jm hh hv h
 rw [e]
 rfl
end
theorem SP (E : List KD):Con Tryz.prog 73 [.own 0] [.obj (De E)] [] (fun r hp'=>r = .fn 125 [2]∧hp' = [.obj (De E),.dead,.var Lb [.own 0]]):=by
 refine Bu Tryz.func73 rfl (As Tryz.func73 (by kernel_rfl) (by kernel_rfl)) rfl fun s0 pv0=>?_
 rw [Tryz.ntmps73]
 apply Y1;refine Yj (ao rfl) (VU rfl) rfl rfl rfl rfl ?_;refine Wa<|Y0<|Y1 ?_;refine Wq (Fh [2] rfl) ?_;refine Wa<|Y0 ?_;apply Aw
 refine Bk (RetsA.one rfl) rfl ?_ rfl
 exact ⟨rfl,rfl⟩
theorem NF (E : List KD) (hE:E.length≤1000000):Con Tryz.prog 72 [.fn 125 [0],.d (ex (.func (.func 74) #[] #[]))] [.var Lb [.own 1],.obj (De E)] [] (fun r hp'=>∃ (S:Ae),S.Perm (Hi E)∧(S.Pairwise fun a b=>lx a b≤0)∧r = .d (BG S)∧hp' = [.var Lb [.own 1],.obj (De E),.dead]) :=
 (NG E hE).cut fun r hp' ⟨S, tl, h1, h2, h3, h4, _⟩ => ⟨BG S, [.var Lb [.own 1], .obj (De E), .dead], tl, h3, h4, by simp, fun o ho => by
  simp only [List.mem_cons,List.not_mem_nil,or_false] at ho
  rcases ho with rfl | rfl | rfl
  ·refine Low.var fun av hav m' ρ s v h=>?_
   rw [List.mem_singleton.1 hav] at h ⊢
   exact ⟨by simp,h.2⟩
  ·exact fun _ _ _ _ h=>h
  ·exact Low.dead,⟨S,h1,h2,rfl,rfl⟩⟩
def IsStd (l : Ae) (n:Nat) (S:Ae):Prop:=(S.Pairwise fun a b=>lx a b<0)∧∀ x,MemE x S↔StdX l n x
theorem To (l : Ae) (n B:Nat) (d deg:Int) (hn8:n≤8) (hl:l.length≤1000) (hB:∀ y,StdX l n y→∀ j,j<8→y j≤B) (hBs:B≤1000) (hcnt:∀ K:Ae,(∀ x,MemE x K↔StdX l n x)→(K.Pairwise fun a b=>¬ Eqv a b)→K.length≤1000000) (hd:d≤0) (hdeg:deg≤1000) (ck:Abs Tryz.prog 46 [BG l,ex (.int .i64 (n:Nat))] (ex (.int .i64 0))) (cd:Abs Tryz.prog 55 [BG l,ex (.int .i64 (n:Nat))] (ex (.int .i64 d))) (cg:Abs Tryz.prog 56 [BG l,ex (.int .i64 (n:Nat))] (ex (.int .i64 deg))):Abs Tryz.prog 28 [BG l,ex (.int .i64 (n:Nat))] (DE [NH (IsStd l n) BG,ex (.int .i64 0)]):=by
 have hd':¬ 0<d:=by omega
 have hdeg':¬ 1000<deg:=by omega
 have cc:=Xr l n B hn8 (by omega) hB hBs (8*B+1) [] (fun _=>0) (by omega) (fun j hj=>⟨Int.le_refl 0,by omega,fun _=>rfl⟩) (PreD.top l n _) List.Pairwise.nil
 refine Ab Tryz.func28 fun s0=>?_
 rw [Tryz.ntmps28]
 apply Y1;refine Sm (ao rfl) One.sl rfl rfl rfl rfl ?_;refine Sn (ao rfl) rfl rfl rfl rfl rfl ?_;refine Wa<|Wa<|Y0<|Aa<|Y1 ?_;refine Wq BO ?_;refine Wq BO ?_;refine Wq (Ao (ck)) ?_;refine Wa<|Y0<|Y1<|Wm ?_;refine Wq Aq ?_;apply Y0;refine Cf ?_;refine Ys<|Aa<|Y1 ?_;refine Wq BO ?_;refine Wq BO ?_;refine Wq (Ao (cd)) ?_;refine Wq Aq ?_;apply Y0;refine Cf ?_;refine Ys<|Aa<|Y1 ?_;refine Wq BO ?_;refine Wq BO ?_;refine Wq (Ao (cg)) ?_;refine Wq Aq ?_;apply Y0;refine Cf ?_;refine Ys<|Y1 ?_;refine Wf rfl rfl rfl ?_;refine KW Gp rfl rfl rfl rfl rfl rfl ?_;refine Ir (ao rfl) (ao rfl) rfl Gp (VU rfl) rfl rfl ?_;refine Y0<|Y1 ?_;refine KW QX rfl rfl rfl rfl rfl rfl ?_;refine Y0<|Y1 ?_;refine Wq (Fh [3,0,1,4] rfl) ?_;refine Ir (ao rfl) (ao rfl) rfl QX One.fn rfl rfl ?_;refine Y0<|Y1 ?_;refine Wq (Ch (ao rfl) rfl QX rfl rfl) ?_;(refine Dj rfl rfl ?_;(refine Ft (Ac rfl) (Ac rfl) rfl rfl ?_;(repeat ((first | refine ⟨_,Bz (ao rfl),?_⟩ | refine ⟨_,Po rfl,?_⟩);refine ⟨_,rfl,?_⟩));refine ⟨_,rfl,?_⟩))
 refine Be [3,2,0,1,4] [0,2,3,4] (cc) (by first | exact Or.inl rfl | exact Or.inr ⟨by decide,rfl,by repeat (first | exact AvoidR.nil | refine AF rfl ?_ | refine AvoidR.dead ?_ | refine AM ?_ | refine AvoidR.obj ?_ | refine AD ?_ | refine AE rfl ?_ | refine AvoidR.pin rfl ?_)⟩) rfl rfl (by first | exact .inl ⟨rfl,rfl⟩ | exact .inr ⟨rfl,rfl⟩) (by repeat (first | exact ArgsC.nil | refine ArgsC.d rfl (D.le.refl _) ?_ | refine AR rfl rfl ?_)) (by decide) (by repeat (first | exact SelR.nil | refine SelR.var rfl ?_ | refine SelR.obj rfl ?_ | refine Bb rfl ?_ | refine AP rfl rfl rfl ?_)) (by repeat (first | exact trivial | refine ⟨⟨_,_,rfl⟩,?_⟩)) rfl ?_
 rintro _ _ ⟨K,hD,rfl,rfl⟩
 refine ⟨_,_,_,(by first | exact AVRen.d | exact AVRen.own rfl | exact AVRen.ptr rfl | exact AVRen.fn rfl),(by repeat (first | exact SetR.nil | (apply SetR.cons;(first | exact OwRen.dead | exact Aj | exact OwRen.obj | exact Ar | exact Ak rfl);exact rfl))),(by repeat (first | exact AppR.nil | (apply AppR.cons;(first | exact OwRen.dead | exact Aj | exact OwRen.obj | exact Ar | exact Ak rfl);exact rfl))),?_⟩
 try simp only [AZ,Bh]
 obtain ⟨hk1,hk2⟩:=hD.top
 have hKl:=hcnt K hk1 hk2
 refine Y0<|Y1 ?_;refine Wq (Ch (ao rfl) rfl Gp rfl rfl) ?_
 refine Be [2] [] (SP (bE K)) (by first | exact Or.inl rfl | exact Or.inr ⟨by decide,rfl,by repeat (first | exact AvoidR.nil | refine AF rfl ?_ | refine AvoidR.dead ?_ | refine AM ?_ | refine AvoidR.obj ?_ | refine AD ?_ | refine AE rfl ?_ | refine AvoidR.pin rfl ?_)⟩) rfl rfl (by first | exact .inl ⟨rfl,rfl⟩ | exact .inr ⟨rfl,rfl⟩) (by repeat (first | exact ArgsC.nil | refine ArgsC.d rfl (D.le.refl _) ?_ | refine AR rfl rfl ?_)) (by decide) (by repeat (first | exact SelR.nil | refine SelR.var rfl ?_ | refine SelR.obj rfl ?_ | refine Bb rfl ?_ | refine AP rfl rfl rfl ?_)) (by repeat (first | exact trivial | refine ⟨⟨_,_,rfl⟩,?_⟩)) rfl ?_
 rintro _ _ ⟨rfl,rfl⟩
 refine ⟨_,_,_,(by first | exact AVRen.d | exact AVRen.own rfl | exact AVRen.ptr rfl | exact AVRen.fn rfl),(by repeat (first | exact SetR.nil | (apply SetR.cons;(first | exact OwRen.dead | exact Aj | exact OwRen.obj | exact Ar | exact Ak rfl);exact rfl))),(by repeat (first | exact AppR.nil | (apply AppR.cons;(first | exact OwRen.dead | exact Aj | exact OwRen.obj | exact Ar | exact Ak rfl);exact rfl))),?_⟩
 try simp only [AZ,Bh]
 refine Be [7,2] [] (NF (bE K) (by rw [Qi];exact hKl)) (by first | exact Or.inl rfl | exact Or.inr ⟨by decide,rfl,by repeat (first | exact AvoidR.nil | refine AF rfl ?_ | refine AvoidR.dead ?_ | refine AM ?_ | refine AvoidR.obj ?_ | refine AD ?_ | refine AE rfl ?_ | refine AvoidR.pin rfl ?_)⟩) rfl rfl (by first | exact .inl ⟨rfl,rfl⟩ | exact .inr ⟨rfl,rfl⟩) (by repeat (first | exact ArgsC.nil | refine ArgsC.d rfl (D.le.refl _) ?_ | refine AR rfl rfl ?_)) (by decide) (by repeat (first | exact SelR.nil | refine SelR.var rfl ?_ | refine SelR.obj rfl ?_ | refine Bb rfl ?_ | refine AP rfl rfl rfl ?_)) (by repeat (first | exact trivial | refine ⟨⟨_,_,rfl⟩,?_⟩)) rfl ?_
 rintro _ _ ⟨S,hS1,hS2,rfl,rfl⟩
 refine ⟨_,_,_,(by first | exact AVRen.d | exact AVRen.own rfl | exact AVRen.ptr rfl | exact AVRen.fn rfl),(by repeat (first | exact SetR.nil | (apply SetR.cons;(first | exact OwRen.dead | exact Aj | exact OwRen.obj | exact Ar | exact Ak rfl);exact rfl))),(by repeat (first | exact AppR.nil | (apply AppR.cons;(first | exact OwRen.dead | exact Aj | exact OwRen.obj | exact Ar | exact Ak rfl);exact rfl))),?_⟩
 try simp only [AZ,Bh]
 rw [Xy] at hS1
 obtain ⟨hs1,hs2⟩:=PM hS1 hS2 hk2
 have hstd:IsStd l n S:=⟨hs1,fun x=>(hs2 x).trans (hk1 x)⟩
 refine Wa<|Wa<|Y0 ?_;apply Aw
 exact BP (CN (ResV.tmp rfl rfl) (ResV.tmp rfl rfl) (Cp (fun s v h=>⟨S,hstd,h⟩) (D.le.refl _)))
abbrev EY (l : Ae) (n:Nat):Int:=Gk (Df l (2 ^ n))
def Xl (l : Ae) (n N:Nat) (f:Nat→Int):Int:=if EY l n<0 then 0 else Bv (cN N f (n - (EY l n).toNat)).1 (Cv (n - (EY l n).toNat) f)
structure HilC (l : Ae) (n N:Nat) (f:Nat→Int):Prop where
 ck:Abs Tryz.prog 46 [BG l,ex (.int .i64 (n:Nat))] (ex (.int .i64 0))
 num:NumL l N f
 nle:N≤6145
 bnd:∀ i,-4096≤f i∧f i≤4096
 cn:Abs Tryz.prog 47 [BG l] (nD N f)
 cd:Abs Tryz.prog 55 [BG l,ex (.int .i64 (n:Nat))] (ex (.int .i64 (EY l n)))
 cc:∀ Dm:Nat,EY l n = Dm→Abs Tryz.prog 58 [BG l,ex (.int .i64 (n:Nat)),ex (.int .i64 (Dm:Nat))] (nD (cN N f (n - Dm)).1 (Cv (n - Dm) f))
 cg:Abs Tryz.prog 56 [BG l,ex (.int .i64 (n:Nat))] (ex (.int .i64 (Xl l n N f)))
 dle:EY l n≤n
 far:∀ Dm:Nat,EY l n = Dm→∀ i,(cN N f (n - Dm)).1≤i→Cv (n - Dm) f i = 0
 pos:∀ Dm:Nat,EY l n = Dm→0<Bv (cN N f (n - Dm)).1 (Cv (n - Dm) f)
 qb:∀ Dm:Nat,EY l n = Dm→∀ j,-9223372036854775808≤Cv (n - Dm) f j∧Cv (n - Dm) f j≤9223372036854775807
theorem TY (S : Nat→Bool):∀ (k i:Nat),IL k i S≤k
 | 0,_=>Nat.le_refl 0
 | k+1,i=>by
  have:=TY S k (i+1)
  rw [IL]
  split <;> omega
theorem Rh : ∀ (k i:Nat),IL k i (fun _=>true) = k
 | 0,_=>rfl
 | k+1,i=>by
  rw [IL,Rh k (i+1),if_pos rfl]
  omega
theorem FS.sum_eq {p : Nat→Int} {B M:Nat} {c:Int} (h:FS p B c) (hM:∀ i,M≤i→p i = 0):Bv M p = c:=by
 have h1:FS p M (Bv M p):=⟨hM,rfl⟩
 have h2:=h1.more (B':=max M B) (by omega)
 have h3:=h.more (B':=max M B) (by omega)
 exact h2.2.symm.trans h3.2
theorem A0q {l : Ae} {n:Nat} (hn:n≤8) (h2:∀ y∈l,SupN n y):EY l n≤n:=by
 rcases (MX hn h2).2 with h | ⟨S,_,h⟩
 ·have:EY l n = -1:=h
  omega
 ·have:=TY S n 0
  have h:EY l n = _:=h
  omega
theorem MT (k Dg n:Nat) (l:Ae) (hn:n≤8) (hk:k≤12) (hl:l.length≤k) (hDg:Dg≤512) (h1:∀ y∈l,In8 y 0 64) (h2:∀ y∈l,SupN n y) (hg:∀ y∈l,Cy 8 0 y≤Dg) (hbig:(2:Int) ^ k*(((Dg*k:Nat):Int)+1) ^ (n+1)≤9223372036854775807):∃ N f,HilC l n N f:=by
 obtain ⟨N,f,hcn,hnum,hN,hb,hw⟩:=Lj Dg k hDg hk l hl h1 hg
 have hDk:Dg*k≤512*12:=Nat.mul_le_mul hDg hk
 have hpk:(2:Int) ^ k≤4096:=by
  have h2:2 ^ k≤2 ^ 12:=Nat.pow_le_pow_right (by decide) hk
  exact_mod_cast h2
 have hB:Bnd f (Dg*k) (2 ^ k):=fun t _=>hb t
 have hbg:∀ j,j≤n+1→(2:Int) ^ k*(((Dg*k:Nat):Int)+1) ^ j≤9223372036854775807:=fun j hj=>LH hB.pos hbig hj
 have ck:=Vm l n hn (by omega) h1 h2
 have cd:=Td l n hn (by omega)
 have hdim:=MX hn h2
 have hdl:=A0q hn h2
 obtain ⟨c0,hser⟩:=RA hn h2 hnum.num
 have hfs:∀ Dm:Nat,EY l n = Dm→∃ B,FS (Cv (n - Dm) f) B c0∧0<c0:=fun Dm hDm=>by
  rcases hser with ⟨g1,_,_⟩ | ⟨m,p,B,g1,g2,g3,g4⟩
  ·have g1:EY l n = -1:=g1
   omega
  ·have g1:EY l n = (m:Int):=g1
   obtain rfl:m = Dm:=by omega
   have e:Cv (m+(n - m)) f = Cv m p:=by rw [show m+(n - m) = n by omega];exact g4
   exact ⟨B,by rw [SB e];exact g2,g3⟩
 have hfar:∀ Dm:Nat,EY l n = Dm→∀ i,(cN N f (n - Dm)).1≤i→Cv (n - Dm) f i = 0:=fun Dm hDm=>by
  obtain ⟨B,h3,_⟩:=hfs Dm hDm
  exact Vr hnum.far h3 _ (Nat.le_refl _)
 have hsum:∀ Dm:Nat,EY l n = Dm→Bv (cN N f (n - Dm)).1 (Cv (n - Dm) f) = c0∧0<c0:=fun Dm hDm=>by
  obtain ⟨B,h3,h4⟩:=hfs Dm hDm
  exact ⟨h3.sum_eq (hfar Dm hDm),h4⟩
 have hM:∀ j,(cN N f j).1≤Dg*k+1:=fun j=>Nat.le_trans (RX N f j) (by omega)
 have hcc:∀ Dm:Nat,EY l n = Dm→Abs Tryz.prog 58 [BG l,ex (.int .i64 (n:Nat)),ex (.int .i64 (Dm:Nat))] (nD (cN N f (n - Dm)).1 (Cv (n - Dm) f)):=fun Dm hDm=>by
  by_cases hr:n - Dm = 0
  ·obtain rfl : Dm = n := by omega
   rw [Nat.sub_self]
   exact Ti l Dm N f (by omega) hcn
  ·rcases hw with rfl | rfl | hw
   ·exfalso
    have:=hdim.1 (fun _=>true) fun a ha=>by cases ha
    rw [Rh] at this
    have:(n:Int)≤EY [] n:=this
    omega
   ·exfalso
    obtain ⟨a,ha,h0⟩:=hnum.whole fun y hy j hj=>⟨((h2 y hy) j hj).1,fun h=>by omega⟩
    rcases hdim.2 with h | ⟨S,h,_⟩
    ·have h:EY l n = -1:=h
     omega
    ·obtain ⟨j,_,hj,_,hp⟩:=h a ha
     rw [h0 j (by omega)] at hp
     omega
   ·exact Vn l n Dm (n - Dm) N (Dg*k) f (2 ^ k) (by omega) (by omega) (by omega) (by omega) hB (hbg _ (by omega)) hw
 have hqb:∀ Dm:Nat,EY l n = Dm→∀ j,-9223372036854775808≤Cv (n - Dm) f j∧Cv (n - Dm) f j≤9223372036854775807:=fun Dm hDm j=>by
  by_cases hj:j≤Dg*k
  ·have h3:=hB.sumn (n - Dm) j hj
   have h4:=hbg (n - Dm) (by omega)
   omega
  ·rw [hfar Dm hDm j (by have := hM (n - Dm); omega)]
   omega
 refine ⟨N,f,ck,hnum,by omega,fun i=>by have:=hb i;omega,hcn,cd,hcc,?_,hdl,hfar,fun Dm hDm=>by rw [(hsum Dm hDm).1];exact (hsum Dm hDm).2,hqb⟩
 unfold Xl
 have hd0:=(Jv (Df l (2 ^ n))).1
 by_cases hneg:EY l n<0
 ·rw [if_pos hneg]
  have e:EY l n = -1:=by
   have:-1≤EY l n:=hd0
   omega
  have cd':=cd
  have e':Gk (Df l (2 ^ n)) = -1:=e
  rw [e'] at cd'
  exact Vh l n cd'
 ·rw [if_neg hneg]
  obtain ⟨Dm,hDm⟩:∃ Dm:Nat,EY l n = Dm:=⟨(EY l n).toNat,by omega⟩
  rw [hDm,Int.toNat_natCast]
  have cd':=cd
  have e':Gk (Df l (2 ^ n)) = Dm:=hDm
  rw [e'] at cd'
  refine Vi l n Dm _ _ cd' (hcc Dm hDm) (by have:=hM (n - Dm);omega) fun j hj=>?_
  cases j with
  | zero=>show -9223372036854775808≤(0:Int)∧(0:Int)≤9223372036854775807;omega
  | succ j =>
   have h3:=(hB.sumn (n - Dm)).sum j (by have:=hM (n - Dm);omega)
   have h4:=hbg (n - Dm+1) (by omega)
   rw [Int.pow_succ,← Int.mul_assoc] at h4
   have h5:pS (Cv (n - Dm) f) j = Bv (j+1) (Cv (n - Dm) f):=rfl
   rw [h5] at h3
   omega
theorem PG (F : Nat→Rat):∀ n t,EG F (La F n) t = EG F n t
 | 0,_=>rfl
 | n+1,t=>by
  rw [La]
  split
  ·rename_i h
   rw [PG F n t]
   unfold EG
   by_cases h1:t<n
   ·rw [if_pos h1,if_pos (by omega)]
   ·rw [if_neg h1]
    split
    ·obtain rfl : t = n := by omega
     exact h.symm
    ·rfl
  ·rfl
theorem XC (F G:Nat→Rat) (m k t:Nat):EG (IE F G m k) (max m k) t = EG F m t+EG G k t:=by
 have e0:IE F G m k t = if t<k then EG F m t+G t else EG F m t:=by
  show (if 0≤t∧t<0+k then EG F m t+q1*G (t - 0) else EG F m t) = _
  have e1:q1*G (t - 0) = G t:=Rat.one_mul _
  rw [e1]
  by_cases h:t<k
  ·rw [if_pos ⟨Nat.zero_le _,by omega⟩,if_pos h]
  ·rw [if_neg (by omega),if_neg h]
 show (if t<max m k then IE F G m k t else q0) = EG F m t+if t<k then G t else q0
 rw [e0]
 by_cases h2:t<k
 ·rw [if_pos (by omega),if_pos h2,if_pos h2]
 ·rw [if_neg h2,if_neg h2]
  have e1:EG F m t+q0 = EG F m t:=Rat.add_zero _
  rw [e1]
  by_cases h1:t<max m k
  ·rw [if_pos h1]
  ·rw [if_neg h1]
   exact (if_neg (by omega)).symm
def Lh (f : Nat→Rat) (t:Nat):Rat:=if t = 0 then q0 else f (t - 1)
theorem Oe (F G:Nat→Rat):∀ i t,Hs F G 2 i t = EG F i t*G 0+Lh (EG F i) t*G 1
 | 0,t=>by
  unfold Hs Lh EG
  rw [if_neg (Nat.not_lt_zero _),if_neg (Nat.not_lt_zero _)]
  have e:(if t = 0 then q0 else q0) = q0:=by split <;> rfl
  rw [e]
  show (0:Rat) = 0*_+0*_
  rw [Rat.zero_mul,Rat.zero_mul,Rat.add_zero]
 | i+1,t=>by
  rw [Hs]
  unfold Ew
  rw [Oe F G i t]
  by_cases h:i≤t∧t<i+2
  ·rw [if_pos h]
   by_cases h2:t = i
   ·subst h2
    have e1:EG F t t = 0:=if_neg (Nat.lt_irrefl t)
    have e2:EG F (t+1) t = F t:=if_pos (Nat.lt_succ_self t)
    have e3:Lh (EG F (t+1)) t = Lh (EG F t) t:=by
     unfold Lh
     split
     ·rfl
     ·unfold EG
      rw [if_pos (by omega),if_pos (by omega)]
    rw [e1,e2,e3,Nat.sub_self,Rat.zero_mul,Rat.zero_add,Rat.add_comm]
   ·obtain rfl : t = i + 1 := by omega
    have e1:EG F i (i+1) = 0:=if_neg (by omega)
    have e2:EG F (i+1) (i+1) = 0:=if_neg (by omega)
    have e3:Lh (EG F (i+1)) (i+1) = F i:=by
     unfold Lh
     rw [if_neg (by omega),Nat.add_sub_cancel]
     exact if_pos (Nat.lt_succ_self i)
    have e4:Lh (EG F i) (i+1) = 0:=by
     unfold Lh
     rw [if_neg (by omega),Nat.add_sub_cancel]
     exact if_neg (Nat.lt_irrefl i)
    rw [e1,e2,e3,e4,show i+1 - i = 1 by omega,Rat.zero_mul,Rat.zero_mul,Rat.zero_add,Rat.zero_add]
  ·rw [if_neg h]
   have e1:EG F i t = EG F (i+1) t:=by
    unfold EG
    by_cases h3:t<i
    ·rw [if_pos h3,if_pos (by omega)]
    ·rw [if_neg h3,if_neg (by omega)]
   have e2:Lh (EG F i) t = Lh (EG F (i+1)) t:=by
    unfold Lh
    split
    ·rfl
    ·unfold EG
     by_cases h3:t - 1<i
     ·rw [if_pos h3,if_pos (by omega)]
     ·rw [if_neg h3,if_neg (by omega)]
   rw [e1,e2]
def Us (c : Rat) (j i:Nat):Nat→Rat:=EG (pT c j i).2 (pT c j i).1
theorem NZ (c : Rat) (j t:Nat):Us c j 0 t = if t = 0 then c else 0:=by
 unfold Us pT EG
 by_cases hc:c = 0
 ·rw [if_pos hc,if_neg (Nat.not_lt_zero t)]
  split
  ·exact hc.symm
  ·rfl
 ·rw [if_neg hc]
  by_cases ht:t = 0
  ·rw [if_pos ht,if_pos (by omega)]
  ·rw [if_neg ht, if_neg (by omega)]
   rfl
theorem Oa (c : Rat) (j i t:Nat):Us c j (i+1) t = Us c j i t*pG (i+1) j 0+Lh (Us c j i) t*pG (i+1) j 1:=by
 unfold Us
 rw [pT]
 by_cases h:(pT c j i).1 = 0
 ·rw [if_pos h]
  have e:∀ t,EG (pT c j i).2 0 t = 0:=fun t=>if_neg (Nat.not_lt_zero t)
  have e2:Lh (EG (pT c j i).2 0) t = 0:=by
   unfold Lh
   split
   ·rfl
   ·exact e _
  show EG (pT c j i).2 0 t = _
  rw [h,e,e2,Rat.zero_mul,Rat.zero_mul,Rat.add_zero]
 ·rw [if_neg h]
  show EG _ (La _ _) t = _
  rw [PG]
  by_cases ht:t<(pT c j i).1+1
  ·refine Eq.trans (if_pos ht) ?_
   exact Oe _ _ _ _
  ·have e0:∀ F:Nat→Rat,EG F ((pT c j i).1+1) t = 0:=fun F=>if_neg ht
   have e1:EG (pT c j i).2 (pT c j i).1 t = 0:=if_neg (by omega)
   have e2:Lh (EG (pT c j i).2 (pT c j i).1) t = 0:=by
    unfold Lh
    rw [if_neg (by omega)]
    exact if_neg (by omega)
   rw [e0,e1,e2,Rat.zero_mul,Rat.zero_mul,Rat.add_zero]
def wF : Nat→Rat
 | 0=>1
 | i+1=>wF i*Rat.divInt 1 ((i+1:Nat):Int)
theorem Yu : ∀ i,wF i ≠ 0
 | 0=>by decide +kernel
 | i+1=>by
  rw [wF]
  intro h
  rcases Rat.mul_eq_zero.1 h with h | h
  ·exact Yu i h
  ·have h0:Rat.divInt 1 ((i+1:Nat):Int) = 1 / (((i+1:Nat):Int):Rat):=Rat.divInt_eq_div _ _
   have h3:((((i+1:Nat):Int)):Rat) ≠ 0:=fun e=>by
    have:((i+1:Nat):Int) = 0:=by exact_mod_cast e
    omega
   rw [h0,Rat.div_def,Rat.one_mul] at h
   have h4:=Rat.mul_inv_cancel _ h3
   rw [h,Rat.mul_zero] at h4
   exact absurd h4 (by decide +kernel)
theorem MD (c : Rat) (j:Nat):∀ i t,i<t→Us c j i t = 0
 | 0,t,h=>by rw [NZ,if_neg (by omega)]
 | i+1,t,h=>by
  have e:Lh (Us c j i) t = 0:=by
   unfold Lh
   rw [if_neg (by omega)]
   exact MD c j i _ (by omega)
  rw [Oa,MD c j i t (by omega),e,Rat.zero_mul,Rat.zero_mul,Rat.add_zero]
theorem Ru (c : Rat) (j:Nat):∀ i,Us c j i i = c*wF i
 | 0=>by rw [NZ,if_pos rfl,wF,Rat.mul_one]
 | i+1=>by
  have e:Lh (Us c j i) (i+1) = c*wF i:=by
   unfold Lh
   rw [if_neg (by omega),Nat.add_sub_cancel]
   exact Ru c j i
  have e2:pG (i+1) j 1 = Rat.divInt 1 ((i+1:Nat):Int):=if_neg (by omega)
  rw [Oa,MD c j i (i+1) (by omega),e,e2,Rat.zero_mul,Rat.zero_add,wF,Rat.mul_assoc]
def YU (q : Nat→Int) (Dg j:Nat):Nat→Rat:=EG (pH q Dg j).2 (pH q Dg j).1
theorem Ut (q : Nat→Int) (Dg t:Nat):YU q Dg 0 t = 0:=by
 unfold YU pH EG
 exact if_neg (Nat.not_lt_zero t)
theorem Uu (q : Nat→Int) (Dg j t:Nat):YU q Dg (j+1) t = YU q Dg j t+Us ((q j:Int):Rat) j (Dg - 1) t:=by
 unfold YU
 rw [pH]
 show EG _ (La _ _) t = _
 rw [PG,XC]
 rfl
theorem Ry (q : Nat→Int) (Dg:Nat):∀ j,YU q Dg j (Dg - 1) = ((Bv j q:Int):Rat)*wF (Dg - 1)
 | 0=>by
  rw [Ut]
  show (0:Rat) = ((0:Int):Rat)*_
  exact (Rat.zero_mul _).symm
 | j+1=>by
  rw [Uu,Ry q Dg j,Ru,← Rat.add_mul,Bv,Rat.intCast_add]
theorem YV {q : Nat→Int} {Dg M:Nat} (hD:0<Dg) (h:Bv M q ≠ 0):(pH q Dg M).1 = Dg:=by
 have h1:=Uv q hD M
 have h2:=Ry q Dg M
 rcases Nat.lt_or_ge (pH q Dg M).1 Dg with h3 | h3
 ·exfalso
  have h4:YU q Dg M (Dg - 1) = 0:=if_neg (by omega)
  rw [h4] at h2
  rcases Rat.mul_eq_zero.1 h2.symm with h5 | h5
  ·exact h (by exact_mod_cast h5)
  ·exact Yu _ h5
 ·omega
theorem Rf (j : Nat):∀ (k i:Nat),IL k i (fun t=>decide (t = j)) = if i≤j∧j<i+k then 1 else 0
 | 0,i=>by rw [if_neg (by omega)];rfl
 | k+1,i=>by
  rw [IL,Rf j k (i+1)]
  by_cases e:i = j
  ·subst e
   rw [if_pos (by simp),if_neg (by omega),if_pos (by omega)]
  ·rw [if_neg (by simpa using e)]
   by_cases h:i≤j∧j<i+(k+1)
   ·rw [if_pos h,if_pos (by omega)]
   ·rw [if_neg h,if_neg (by omega)]
theorem Ud {l : Ae} {n E:Nat} (hn:n≤8) (h2:∀ y∈l,SupN n y) (hE:∀ a∈l,∀ j,j<8→a j≤(E:Int)+1) (hd:EY l n≤0) (x:Nat→Int) (hx:StdX l n x) (j:Nat) (hj:j<8):x j≤E:=by
 by_cases hjn:j<n
 ·have hno:¬ KU n 0 l (fun t=>decide (t = j)):=fun h=>by
   have:=(MX hn h2).1 _ h
   rw [Rf,if_pos (by omega)] at this
   have:(1:Int)≤EY l n:=this
   omega
  obtain ⟨a,h⟩:=Classical.not_forall.1 hno
  obtain ⟨ha,h⟩:=Classical.not_imp.1 h
  have hai:∀ i,i<n→i ≠ j→a i≤0:=fun i hi hne=>by
   refine Classical.byContradiction fun hc=>h ⟨i,Nat.zero_le i,by omega,by simpa using hne,by omega⟩
  have hnd:¬ Dv a x:=fun hdv=>by
   have:=CO.2 ⟨a,ha,hdv⟩
   rw [hx.2] at this
   cases this
  obtain ⟨i,hi⟩:=Classical.not_forall.1 hnd
  obtain ⟨hi8,hi⟩:=Classical.not_imp.1 hi
  have hx0:=(hx.1 i hi8).1
  by_cases e:i = j
  ·subst e
   have:=hE a ha i hi8
   omega
  ·by_cases hin:i<n
   ·have:=hai i hin e
    omega
   ·have := (h2 a ha i hi8).2 (by omega)
    omega
 ·rw [(hx.1 j hj).2 (by omega)]
  omega
theorem Wx {l : Ae} {n B:Nat} (hn:n≤8) (hB:∀ x,StdX l n x→Cy n 0 x<B):(∀ x,MemE x (Lf l n B)↔StdX l n x)∧(Lf l n B).Pairwise fun a b=>¬ Eqv a b:=by
 have hst:∀ {m:Nat→Int},m∈Lf l n B→StdX l n m:=fun {m} h=>by
  obtain ⟨h1,_,h3⟩:=Gr.1 h
  exact ⟨fun j hj=>⟨h1.1 j,fun h=>h1.2 j (by omega)⟩,h3⟩
 refine ⟨fun x=>⟨fun ⟨a,ha,e⟩=>(hst ha).congr e,fun hx=>?_⟩,?_⟩
 ·have hc:=hx.congr (Ij x).symm
  refine ⟨fun j=>if j<n then FG x j else 0,Gr.2 ⟨⟨fun j=>?_,fun j hj=>?_⟩,?_,?_⟩,fun j hj=>?_⟩
  ·show 0≤if j<n then FG x j else 0
   split
   ·by_cases h8:j<8
    ·exact (hc.1 j h8).1
    ·unfold FG
     rw [if_neg h8]
     omega
   ·omega
  ·show (if j<n then FG x j else 0) = 0
   rw [if_neg (by omega)]
  ·rw [Jw (m' := FG x) fun j _ hj => if_pos (by omega)]
   exact hB _ hc
  ·have e:Eqv x fun j=>if j<n then FG x j else 0:=fun j hj=>by
    show x j = if j<n then FG x j else 0
    split
    ·exact (Ij x j hj).symm
    ·exact (hx.1 j hj).2 (by omega)
   exact (hx.congr e).2
  ·show (if j<n then FG x j else 0) = x j
   split
   ·exact Ij x j hj
   ·exact ((hx.1 j hj).2 (by omega)).symm
 ·refine List.Pairwise.imp_of_mem ?_ (JP l n B)
  intro a b ha hb hne e
  refine hne (funext fun j=>?_)
  by_cases h8:j<8
  ·exact e j h8
  ·obtain ⟨h1,_,_⟩:=Gr.1 ha
   obtain ⟨h2,_,_⟩:=Gr.1 hb
   rw [h1.2 j (.inr (by omega)),h2.2 j (.inr (by omega))]
theorem Xe {l : Ae} {n d:Nat} (h:∀ x,StdX l n x→Cy n 0 x ≠ d):hN n d l = 0:=by
 rw [← OG,MQ]
 have:(rM n 0 d).filter (fun m => !inB l m) = []:=by
  rw [List.filter_eq_nil_iff]
  intro m hm hi
  obtain ⟨h1,h2⟩:=FM.1 hm
  exact h m ⟨fun j hj=>⟨h1.1 j,fun h=>h1.2 j (by omega)⟩,by simpa using hi⟩ h2
 rw [this]
 rfl
theorem Ua {p : Nat→Int} {M B:Nat} (hM:∀ i,M≤i→p i = 0) (hB:∀ i,B≤i→p i = 0):Bv M p = Bv B p:=(show FS p B (Bv B p) from ⟨hB,rfl⟩).sum_eq hM
theorem LY {l K:Ae} {n N B:Nat} {f:Nat→Int} (hc:HilC l n N f) (hn:n≤8) (h2:∀ y∈l,SupN n y) (hd:EY l n≤0) (hK:∀ x,MemE x K↔StdX l n x) (hp:K.Pairwise fun a b=>¬ Eqv a b) (hB:∀ x,StdX l n x→Cy n 0 x<B):Xl l n N f = ((K.length:Nat):Int):=by
 rw [Sx hn hK hp hB]
 have hz:∀ i,B≤i→hN n i l = 0:=fun i hi=>Xe fun x hx e=>by
  have:=hB x hx
  omega
 have hnum:∀ d,Cv n f d = hN n d l:=fun d=>hc.num.num n hn h2 d
 have hge:-1≤EY l n:=(Jv _).1
 by_cases h0:EY l n = 0
 ·have h1:EY l n = ((0:Nat):Int):=h0
  unfold Xl
  rw [if_neg (by omega),h0]
  show Bv (cN N f (n - 0)).1 (Cv (n - 0) f) = _
  have h3:=hc.far 0 h1
  have e:Cv (n - 0) f = fun d=>hN n d l:=by rw [Nat.sub_zero];exact funext hnum
  rw [e] at h3 ⊢
  exact Ua h3 hz
 ·have h1 : EY l n = -1 := by omega
  unfold Xl
  rw [if_pos (by omega)]
  obtain ⟨c,hs⟩:=RA hn h2 hc.num.num
  rcases hs with ⟨_,_,h3⟩ | ⟨m,_,_,h3,_⟩
  ·refine (CC fun d _=>?_).symm
   rw [← hnum,h3]
  ·have h3:EY l n = (m:Int):=h3
   omega
theorem Ww {l : Ae} {n N E:Nat} {f:Nat→Int} (hc:HilC l n N f) (hn:n≤8) (h2:∀ y∈l,SupN n y) (hE:∀ a∈l,∀ j,j<8→a j≤(E:Int)+1) (hd:EY l n≤0):(∀ S,IsStd l n S→Xl l n N f = ((S.length:Nat):Int))∧Xl l n N f≤(((E+1) ^ n:Nat):Int):=by
 have hb:=Ud hn h2 hE hd
 have hB:∀ x,StdX l n x→Cy n 0 x<n*E+1:=fun x hx=>by
  have:=Qd (x:=x) (B:=E) n 0 fun j _ h=>hb x hx j (by omega)
  omega
 have hpw:∀ S,IsStd l n S→S.Pairwise fun a b=>¬ Eqv a b:=fun S hS=>hS.1.imp fun {a b} h e=>by
  rw [FP.2 e] at h
  exact absurd h (by decide)
 refine ⟨fun S hS=>LY hc hn h2 hd hS.2 (hpw S hS) hB,?_⟩
 obtain ⟨g1,g2⟩:=Wx hn hB
 rw [LY hc hn h2 hd g1 g2 hB]
 have:=Rk hn (fun x hx=>(g1 x).1 ⟨x,hx,Eqv.refl x⟩) g2 hb
 exact_mod_cast this
theorem VA {l : Ae} {n N E:Nat} {f:Nat→Int} (hc:HilC l n N f) (hn:n≤8) (hl:l.length≤1000) (h2:∀ y∈l,SupN n y) (hE:∀ a∈l,∀ j,j<8→a j≤(E:Int)+1) (hE2:E≤1000) (hd:EY l n≤0) (hbox:(E+1) ^ n≤1000):Abs Tryz.prog 28 [BG l,ex (.int .i64 (n:Nat))] (DE [NH (IsStd l n) BG,ex (.int .i64 0)]):=by
 have hb:=Ud hn h2 hE hd
 refine To l n E _ _ hn hl hb hE2 (fun K hK hp=>?_) hd ?_ hc.ck hc.cd hc.cg
 ·have:=Rk hn (fun x hx=>(hK x).1 ⟨x,hx,Eqv.refl x⟩) hp hb
  omega
 ·have:=(Ww hc hn h2 hE hd).2
  omega
theorem IsStd.same {l : Ae} {n:Nat} {S S':Ae} (h:IsStd l n S) (h':IsStd l n S'):BG S = BG S':=by
 have hd:∀ {S:Ae},(S.Pairwise fun a b=>lx a b<0)→VC S.reverse:=fun {S} h=>by
  unfold VC
  rw [List.pairwise_reverse]
  refine h.imp fun {a b} h=>?_
  rw [Ek]
  omega
 have hm:∀ (S:Ae) x,MemE x S.reverse↔MemE x S:=fun S x=>⟨fun ⟨a,ha,e⟩=>⟨a,List.mem_reverse.1 ha,e⟩,fun ⟨a,ha,e⟩=>⟨a,List.mem_reverse.2 ha,e⟩⟩
 have hs:=Iv (hd h.1) (hd h'.1) fun x=>(hm S x).trans ((h.2 x).trans ((h'.2 x).symm.trans (hm S' x).symm))
 have key:∀ {l l':Ae},SameM l l'→l.map AQ = l'.map AQ:=by
  intro l
  induction l with
  | nil =>
   intro l' h
   cases l' with
   | nil=>rfl
   | cons b l'=>exact h.elim
  | cons a l ih =>
   intro l' h
   cases l' with
   | nil=>exact h.elim
   | cons b l'=>rw [List.map_cons,List.map_cons,Of h.1,ih h.2]
 have h3:=congrArg List.reverse (key hs)
 rw [List.map_reverse,List.map_reverse,List.reverse_reverse,List.reverse_reverse] at h3
 rw [BG,BG,h3]
end Go.Proofs.YtialdhnijjnpaaaGreat
