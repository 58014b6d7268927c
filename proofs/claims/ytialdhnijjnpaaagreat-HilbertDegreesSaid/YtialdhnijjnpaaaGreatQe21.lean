/- Part 21 of the proof of hilbertDegrees_holds. No condition. -/
import Derived.Laws.CopyOwn
import Derived.Test.YtialdhnijjnpaaaGreatQe2
import Derived.Test.YtialdhnijjnpaaaGreatQe20
set_option linter.unusedSimpArgs false
set_option linter.unusedVariables false
set_option maxRecDepth 100000
namespace Go.Proofs.YtialdhnijjnpaaaGreat
open Go.RowKit
def ZE (n : Nat) (f f0:Nat→Int) (j:Nat):Int:=if j<n then f j else f0 j
section
variable {P : Program} {s0:An} {n:Nat} {ops:Array Oper} {Q:Exit→AS→Prop} {rest:List Oper} {fr:List (Nat × AV)} {hp hp':List Ow} {ty:TypeId} {ps:String} {af:Array Edge}
theorem XE {t t2 T m b bytes len cap N g e0:Nat} {z z':Value} {d:TypeDesc} {x y:Operand} {L:List HE} {T0:TypeId} {f f0:Nat→Int} (id i:Nat) (hx:AS.arg ⟨fr,hp⟩ x = .d (sX g len cap)) (hy:DX hp (AS.arg ⟨fr,hp⟩ y) = some (nD N f)) (hh:hp[id]? = some (.obj (Bk L))) (hi:L[i]? = some ⟨g,T0,nC f0 len⟩) (ht:Tab P t (.slice T) m b z') (hT:Tab P T d 1 bytes z) (hs:CU hp id (.obj (Bk (L.set i ⟨g,T0,nC (ZE N f f0) len⟩))) = some hp')
  (hd:Nat.blt e0 n = true) (h:AWl P s0 n ops Q rest ⟨(e0,.d Cl) :: fr,hp'⟩):AWl P s0 n ops Q (⟨some e0,.call { callee:=.builtin .copy,args:=#[x,y],argTypes:=#[t,t2] },ty,ps,af,none⟩ :: rest) ⟨fr,hp⟩:=by
 refine AWl.step rfl fun s ρ a hst K hK=>?_
 have hx':=hst.arg x
 rw [hx] at hx'
 have e1:a.eval x = .slice (some ⟨g,0,none⟩) len cap:=hx'
 obtain ⟨A,c,e2,h3,h4,h5⟩:=BJ hst.hp (hst.arg y) hy
 rw [List.length_map,List.length_range] at e2 h3 h5
 obtain ⟨g1,-⟩:=Dj (hst.hp id _ hh)
 obtain ⟨hT1,hS,cs,h6,h7,h8⟩:=g1 _ (List.mem_of_getElem? hi)
 simp only [Hv] at h7 h8
 obtain ⟨ii,hii,hz0,hsize,hby⟩:=hT.info
 have hinf:(P.info? T).map (·.size) = some 1:=by rw [hii,Option.map_some,hsize]
 obtain ⟨q,hq⟩:∃ q,q = Nat.min N len:=⟨_,rfl⟩
 have hqN:q≤N:=by rw [hq];exact Nat.min_le_left _ _
 have hql:q≤len:=by rw [hq];exact Nat.min_le_right _ _
 have hql':∀ j,j<len→j<N→j<q:=fun j h1 h2=>by rw [hq];exact Nat.lt_min.2 ⟨h2,h1⟩
 obtain ⟨vs,hvl,hrun,hvs⟩:∃ vs:List Value,vs.length = q∧(execOp a.eval ⟨some e0,.call { callee:=.builtin .copy,args:=#[x,y],argTypes:=#[t,t2] },ty,ps,af,none⟩).run P s.w = .ok (.value (goInt q)) (s.w.setRow g (cs.toList.take 0 ++ vs ++ cs.toList.drop (0+vs.length)).toArray)∧∀ j,j<q→∃ u,vs[j]? = some u∧u.oneCell' = true∧u = .int .i64 (f j):=by
  by_cases h0:q = 0
  ·refine ⟨[], h0.symm, ?_, fun j hj => absurd hj (by omega)⟩
   have hrun:=run_copy_none (P:=P) s.w t t2 ty T (some ⟨g,0,none⟩) A len cap N c ht.und hinf (hq ▸ h0)
   have he:s.w.setRow g (cs.toList.take 0 ++ [] ++ cs.toList.drop (0+([]:List Value).length)).toArray = s.w:=by
    simp only [List.take_zero,List.nil_append,List.length_nil,List.drop_zero,Array.toArray_toList]
    exact setRow_self s.w g cs T0 (0,0) h6
   rw [he,h0]
   simp [execOp,resolve,invoke,builtin,e1,e2,hrun]
  ·obtain ⟨g2, p, rfl, h9⟩ := h5 (by omega)
   have hcell:∀ j,j<q→∃ u,s.w.cell? ⟨g2,p+j,none⟩ = some u∧u.oneCell' = true∧u = .int .i64 (f j):=fun j hj=>by
    obtain ⟨h10,h11⟩:=h9 j (by omega)
    have er:((List.range N).map fun i=>[ex (.int .i64 (f i))]).getD j [] = [ex (.int .i64 (f j))]:=by
     have:j<N:=by omega
     simp [this]
    rw [er] at h11
    obtain ⟨u,h12,h13,h14⟩:=h11.cell (k:=0) (by simp)
    rw [Nat.mul_one,Nat.add_zero] at h12
    exact ⟨u,h12,h13,h14⟩
   have hvl:((List.range q).map fun j=>Value.int .i64 (f j)).length = q:=by simp
   have hva:∀ j u,((List.range q).map fun j=>Value.int .i64 (f j))[j]? = some u→j<q∧u = .int .i64 (f j):=fun j u hu=>by
    rw [List.getElem?_map] at hu
    by_cases hj:j<q
    ·rw [List.getElem?_range hj] at hu
     cases hu
     exact ⟨hj,rfl⟩
    ·rw [List.getElem?_eq_none (by simpa using hj)] at hu
     cases hu
   refine ⟨(List.range q).map fun j=>.int .i64 (f j),hvl,?_,fun j hj=>⟨.int .i64 (f j),by simp [hj],rfl,rfl⟩⟩
   have hrun := run_copy_row (P := P) s.w t t2 ty T g 0 len cap ⟨g2, p, none⟩ N c cs T0 ((List.range q).map fun j => .int .i64 (f j)) ht.und hinf h6 (by rw [hvl, hq]) (fun j v hv => by
    obtain ⟨hj,rfl⟩:=hva j v hv
    obtain ⟨u,h12,_,rfl⟩:=hcell j hj
    rw [Addr.add_lit]
    exact h12) (by rw [hvl];omega) (fun v hv=>by
    obtain ⟨j,hj⟩:=List.mem_iff_getElem?.1 hv
    obtain ⟨_,rfl⟩:=hva j v hj
    rfl)
   rw [hvl] at hrun
   rw [hvl]
   simp [execOp,resolve,invoke,builtin,e1,e2,hrun]
 unfold Oper.wp
 rw [hrun]
 have hfin := ES hst hh hi (W := s.w.setRow g (cs.toList.take 0 ++ vs ++ cs.toList.drop (0 + vs.length)).toArray) (cs' := (cs.toList.take 0 ++ vs ++ cs.toList.drop (0 + vs.length)).toArray) (ds' := nC (ZE N f f0) len) rfl rfl rfl (by simp [World.setRow]) (fun b hb => setRow_other s.w g b _ hb) (setRow_heap s.w g cs _ T0 _ h6)
  (by rw [Hv]; simp; omega) (fun k hk => by
   rw [Hv] at hk
   rw [GW (by rw [hvl];omega),Ro hk]
   simp only [Nat.zero_le,true_and,Nat.zero_add,Nat.sub_zero,hvl]
   by_cases hr:k<q
   ·rw [if_pos hr]
    obtain ⟨u,y1,y2,y3⟩:=hvs k hr
    refine ⟨u,y1,y2,?_⟩
    rw [ZE,if_pos (by omega)]
    exact y3
   ·rw [if_neg hr]
    obtain ⟨u,y1,y2,y3⟩:=h8 k hk
    refine ⟨u,y1,y2,?_⟩
    rw [Ro hk] at y3
    rw [ZE,if_neg (fun h=>hr (hql' k hk h))]
    exact y3) hs
 exact hK _ _ _ h ⟨_,ρ,rfl,hfin.put (GS.Le.refl _) (dst:=some e0) (fun d hd'=>by cases hd';simpa [Nat.blt_eq] using hd) (r:=.d Cl) trivial⟩
end
def flF (F : Nat→List D) (n:Nat):List D:=((List.range n).map F).flatten
def TD {α : Type} (F:Nat→α) (k:Nat) (r:α):Nat→α:=fun j=>if j = k then r else F j
theorem OC (F : Nat→List D) (n:Nat):flF F (n+1) = flF F n ++ F n:=by
 simp [flF,List.range_succ]
theorem BP {F : Nat→List D} {sz:Nat} (h:∀ j,(F j).length = sz):∀ n,(flF F n).length = n*sz
 | 0=>by rw [Nat.zero_mul];rfl
 | n+1=>by rw [OC,List.length_append,BP h n,h n,Nat.succ_mul]
theorem FZ {F : Nat→List D} {sz:Nat} (h:∀ j,(F j).length = sz):∀ {n j q:Nat},j<n→q<sz→(flF F n)[j*sz+q]? = (F j)[q]?
 | n+1,j,q,hj,hq=>by
  rw [OC]
  by_cases h1:j<n
  ·have h2:(j+1)*sz≤n*sz:=Nat.mul_le_mul_right sz h1
   rw [Nat.succ_mul] at h2
   rw [List.getElem?_append_left (by rw [BP h];omega)]
   exact FZ h h1 hq
  ·obtain rfl : j = n := by omega
   rw [List.getElem?_append_right (by rw [BP h];omega),BP h]
   congr 1
   omega
theorem MT {n sz i:Nat} (hi:i<n*sz):i / sz<n∧i % sz<sz∧i = i / sz*sz+i % sz:=by
 have h0:0<sz:=by
  rcases Nat.eq_zero_or_pos sz with h | h
  ·subst h;rw [Nat.mul_zero] at hi;omega
  ·exact h
 exact ⟨(Nat.div_lt_iff_lt_mul h0).2 hi,Nat.mod_lt _ h0,by rw [Nat.mul_comm];exact (Nat.div_add_mod i sz).symm⟩
theorem SD {F G:Nat→List D} {n:Nat} (h:∀ j,j<n→F j = G j):flF F n = flF G n:=by
 unfold flF
 rw [List.map_congr_left fun j hj=>h j (List.mem_range.1 hj)]
theorem PartAt.flF {F : Nat→List D} {sz n j:Nat} (h:∀ j,(F j).length = sz) (hj:j<n):PartAt (flF F n) (j*sz) sz (F j):=by
 have h2:(j+1)*sz≤n*sz:=Nat.mul_le_mul_right sz hj
 rw [Nat.succ_mul] at h2
 refine ⟨by rw [BP h];exact h2,?_⟩
 apply List.ext_getElem?
 intro q
 rw [List.getElem?_take]
 split
 ·rename_i hq
  rw [List.getElem?_drop]
  exact FZ h hj hq
 ·rename_i hq
  rw [List.getElem?_eq_none (by rw [h];omega)]
theorem QL {F : Nat→List D} {sz k:Nat} {r:List D} (h:∀ j,(F j).length = sz) (hr:r.length = sz) (j:Nat):(TD F k r j).length = sz:=by
 unfold TD
 split
 ·exact hr
 ·exact h j
theorem SetAt.flF {F : Nat→List D} {sz n j:Nat} {r:List D} (h:∀ j,(F j).length = sz) (hr:r.length = sz) (hj:j<n):SetAt (flF F n) (j*sz) r (flF (TD F j r) n):=by
 have h2:(j+1)*sz≤n*sz:=Nat.mul_le_mul_right sz hj
 rw [Nat.succ_mul] at h2
 have hle:j*sz+r.length≤(Go.Proofs.YtialdhnijjnpaaaGreat.flF F n).length:=by rw [BP h,hr];exact h2
 refine ⟨hle,?_⟩
 apply List.ext_getElem?
 intro i
 by_cases hi:i<n*sz
 ·obtain ⟨h3,h4,h5⟩:=MT hi
  have e2:(Go.Proofs.YtialdhnijjnpaaaGreat.flF (TD F j r) n)[i]? = (TD F j r (i / sz))[i % sz]? := by
   conv=>lhs;rw [h5]
   exact FZ (QL h hr) h3 h4
  have e3:(Go.Proofs.YtialdhnijjnpaaaGreat.flF F n)[i]? = (F (i / sz))[i % sz]? := by
   conv=>lhs;rw [h5]
   exact FZ h h3 h4
  rw [e2]
  unfold Lz
  have hlt:((Go.Proofs.YtialdhnijjnpaaaGreat.flF F n).take (j*sz)).length = j*sz:=by rw [List.length_take,BP h];omega
  by_cases h6:i<j*sz
  ·rw [List.getElem?_append_left (by rw [hlt]; exact h6), List.getElem?_take, if_pos h6, e3]
   have:i / sz ≠ j:=fun e=>by rw [e] at h5;omega
   rw [TD,if_neg this]
  ·rw [List.getElem?_append_right (by rw [hlt]; omega), hlt]
   by_cases h7:i<j*sz+sz
   ·have e4 : i / sz = j := Nat.div_eq_of_lt_le (by omega) (by rw [Nat.succ_mul]; exact h7)
    rw [List.getElem?_append_left (by rw [hr];omega),TD,if_pos e4]
    congr 1
    rw [e4] at h5
    omega
   ·rw [List.getElem?_append_right (by rw [hr]; omega), List.getElem?_drop, hr, TD, if_neg (fun e => by rw [e] at h5; omega), ← e3]
    congr 1
    omega
 ·rw [List.getElem?_eq_none (by rw [Cd hle,BP h];omega),List.getElem?_eq_none (by rw [BP (QL h hr)];omega)]
def rD (T sz:Nat) (F:Nat→List D) (n:Nat):D:=slD T sz ((List.range n).map F)
theorem Xu {s : GS} {b T sz n N cap:Nat} {F:Nat→List D} (h:Hset s ⟨b,T,flF F N⟩) (hF:∀ j,(F j).length = sz) (hn:n≤N) (h1:n≤cap) (h2:cap≤9223372036854775807):(rD T sz F n).rel s (.slice (some ⟨b,0,none⟩) n cap):=by
 have hr:∀ k,k<n→((List.range n).map F).getD k [] = F k:=fun k hk=>by simp [hk]
 refine h.sl rfl (by simp) h1 h2 (fun k hk=>?_) fun k j hk hj=>?_
 ·rw [hr k (by simpa using hk)]
  exact hF k
 ·have hk : k < n := by simpa using hk
  have h3:(k+1)*sz≤N*sz:=Nat.mul_le_mul_right sz (by omega)
  rw [Nat.succ_mul] at h3
  rw [hr k hk]
  refine ⟨by show k*sz+j<(flF F N).length;rw [BP hF];omega,?_⟩
  show Bu (flF F N) (k*sz+j) = _
  unfold Bu
  rw [List.getD_eq_getElem?_getD,List.getD_eq_getElem?_getD,FZ hF (by omega) hj]
theorem WQ {r : List D} {n i:Nat} (hi:i<n*r.length):Bu (flF (fun _=>r) n) i = Bu r (i % r.length):=by
 obtain ⟨h3,h4,h5⟩:=MT hi
 unfold Bu
 rw [List.getD_eq_getElem?_getD,List.getD_eq_getElem?_getD]
 congr 1
 conv=>lhs;rw [h5]
 exact FZ (F:=fun _=>r) (fun _=>rfl) h3 h4
section
variable {P : Program} {s0:An} {n:Nat} {ops:Array Oper} {Q:Exit→AS→Prop} {rest:List Oper} {fr:List (Nat × AV)} {hp hp':List Ow} {ty:TypeId} {ps:String} {af:Array Edge}
theorem XB {t T m b bytes c k e sz:Nat} {z z':Value} {d:TypeDesc} {x y:Operand} {hpf:Nat→List Ow} (hx:AS.arg ⟨fr,hp⟩ x = .d (ex (.int .i64 (c:Nat)))) (hy:AS.arg ⟨fr,hp⟩ y = .d (ex (.int .i64 (c:Nat)))) (ht:Tab P t (.slice T) m b z') (hT:Tab P T d sz bytes z) (hz:z.cells.size = sz) (h0:0<sz) (hz1:Fq z.cells.toList = true) (hc:c≤1000000) (hbytes:Nat.ble bytes 65536 = true) (hT32:Nat.beq T 136 = false) (hd:Nat.blt e n = true) (hk:ER hp = some k) (hs:∀ g,CQ hp (.obj (Bk [⟨g,T,flF (fun _=>z.cells.toList.map ex) c⟩])) = some (hpf g))
  (h:∀ g,AWl P s0 n ops Q rest ⟨(e,.d (sX g c c)) :: fr,hpf g⟩):AWl P s0 n ops Q (⟨some e,.makeSlice t x y,ty,ps,af,none⟩ :: rest) ⟨fr,hp⟩:=by
 refine AWl.step rfl fun s ρ a hst K hK=>?_
 have e1:a.eval x = .int .i64 (c:Nat):=St.exD hx ⟨s,ρ,rfl,hst⟩
 have e2:a.eval y = .int .i64 (c:Nat):=St.exD hy ⟨s,ρ,rfl,hst⟩
 obtain ⟨i,hi,hz0,hsize,hby⟩:=hT.info
 have hbytes:=Nat.le_of_ble_eq_true hbytes
 have hT32':=Nat.ne_of_beq_eq_false hT32
 obtain rfl:=Di hk
 have wc:IntKind.i64.wrap ((c:Nat):Int) = c:=IntWalk.i64_in _ (by omega)
 have hprod:bytes*c≤65536*1000000:=Nat.mul_le_mul hbytes hc
 have hprod':((bytes:Int)*(c:Int))≤281474976710656:=by
  have:((bytes*c:Nat):Int)≤((65536*1000000:Nat):Int):=Int.ofNat_le.2 hprod
  rw [Int.natCast_mul] at this
  omega
 have hroom:c*bytes≤roomBytes:=by
  rw [Nat.mul_comm]
  have:roomBytes = 140737488355328:=rfl
  omega
 obtain ⟨arr,harr,harr2,hrun⟩:∃ arr:Array Value,arr.size = c*sz∧(∀ k,k<c*sz→arr[k]? = z.cells[k % sz]?)∧(execOp a.eval ⟨some e,.makeSlice t x y,ty,ps,af,none⟩).run P s.w = .ok (.value (.slice (some ⟨s.w.heap.size,0,none⟩) c c)) (s.w.alloc (.cells arr T)):=by
  have hn:∀ arr,(newRow T arr).run P s.w = .ok ⟨s.w.heap.size,0,none⟩ (s.w.alloc (.cells arr T)):=fun _=>rfl
  have h281:¬ (281474976710656<(bytes:Int)*(c:Int)):=by omega
  have hroom':¬ (roomBytes<c*bytes):=by omega
  have hkn:¬ ((c:Int)<0):=by omega
  by_cases hk0:c = 0
  ·subst hk0
   refine ⟨(Array.range (0*sz)).map (fun j=>(#[]:Array Value)[j % 0]!),by simp,fun k hk=>by rw [Nat.zero_mul] at hk;omega,?_⟩
   simp [execOp,e1,e2,Instr.makeSlice,run_underlying ht.und,asInt,asIntOf,typeInfo,hi,hby,askRoom,hT.run_size,hn,sizeOf,hsize,show IntKind.i64.wrap 0 = 0 from rfl]
  ·have hnz:¬ (c*sz = 0):=fun h=>by
    rcases Nat.mul_eq_zero.1 h with h | h <;> omega
   have hsz0:¬ (sz = 0):=by omega
   refine ⟨(Array.range (c * sz)).map (fun j => z.cells[j % z.cells.size]!), by simp, fun k hk => by
    have:k % sz<z.cells.size:=by rw [hz];exact Nat.mod_lt _ h0
    simp [hk,hz,getElem!_def,Array.getElem?_eq_getElem this],?_⟩
   simp [execOp,e1,e2,Instr.makeSlice,run_underlying ht.und,asInt,asIntOf,typeInfo,hi,hby,wc,h281,askRoom,hroom',sizeOf,hsize,hnz,hk0,hsz0,zeroValue,hz0,hn,hkn]
 unfold Oper.wp
 rw [hrun]
 have hrl:(z.cells.toList.map ex).length = sz:=by rw [List.length_map,Array.length_toList,hz]
 have hfin := hst.new (s.le_mk' arr T 0 hT32') (dst := some e) (fun d hd' => by cases hd'; simpa [Nat.blt_eq] using hd) (v := .slice (some ⟨s.w.heap.size, 0, none⟩) c c) (u := undef) (r := .d (sX s.w.heap.size c c)) (ow := .obj (Bk [⟨s.w.heap.size, T, flF (fun _ => z.cells.toList.map ex) c⟩])) rfl
  (by
   refine ⟨fun x hx=>?_,by simp⟩
   rw [List.mem_singleton.1 hx]
   refine ⟨hT32',fun k hk=>?_,arr,heap_alloc_new s.w _,by rw [BP (fun _=>hrl),harr];exact Nat.le_refl _,fun k hk=>?_⟩
   ·exact absurd (hst.ok.lt _ _ hk) (Nat.lt_irrefl _)
   ·have hk : k < c * sz := by rw [BP (fun _ => hrl)] at hk; exact hk
    have hm:k % sz<z.cells.size:=by rw [hz];exact Nat.mod_lt _ h0
    refine ⟨z.cells[k % sz],(harr2 k hk).trans (Array.getElem?_eq_getElem hm),List.all_eq_true.1 hz1 z.cells[k % sz] (by simp),?_⟩
    rw [WQ (by rw [hrl];exact hk),hrl]
    have:Bu (z.cells.toList.map ex) (k % sz) = ex z.cells[k % sz]:=by
     unfold Bu
     rw [List.getD_eq_getElem?_getD,List.getElem?_map,Array.getElem?_toList,Array.getElem?_eq_getElem hm]
     rfl
    rw [this]
    exact rfl)
  (fun b hb=>by
   obtain ⟨x,hx,rfl⟩:=hb
   rw [List.mem_singleton.1 hx]
   exact Nat.le_refl _)
 have hg:=h s.w.heap.size
 rw [Cp (hs s.w.heap.size)] at hg
 exact hK _ _ _ hg ⟨_,_,rfl,hfin⟩
theorem Sj (P : Program) (w:World) (dT sT ty elem:TypeId) (g dLen dCap sz:Nat) (a:Addr) (sLen sCap:Nat) (cur:Array Value) (t:TypeId) (cs:List Value)
  (hu:P.underlying dT = some (.slice elem)) (hs:(P.info? elem).map (·.size) = some sz)
  (hg:w.heap[g]? = some (.cells cur t (0,0))) (hn:cs.length = Nat.min sLen dLen*sz)
  (hsrc:∀ j v,cs[j]? = some v→w.cell? (a.add j) = some v) (hfit:0+cs.length≤cur.size) (h1:∀ v∈cs,v.oneCell' = true) :
  (Builtin.copy_ #[dT,sT] ty #[.slice (some ⟨g,0,none⟩) dLen dCap,.slice (some a) sLen sCap]).run P w =
   .ok (goInt (Nat.min sLen dLen)) (w.setRow g (cur.toList.take 0 ++ cs ++ cur.toList.drop (0+cs.length)).toArray):=by
 have hl:=run_loadCells_list (P:=P) w a cs hsrc
 rw [hn] at hl
 have hst:=run_storeCells_at P g 0 t cs 0 cur w hg (by simpa using hfit) h1
 cases hq:P.info? elem with
 | none=>simp [hq] at hs
 | some i =>
  have hi:i.size = sz:=by simpa [hq] using hs
  simp [Builtin.copy_,run_underlying hu,Builtin.lenOf,Builtin.firstCells,sizeOf,typeInfo,hq,hi,hl,hst]
theorem JZ (P : Program) (w:World) (dT sT ty elem:TypeId) (d a:Option Addr) (dLen dCap sLen sCap sz:Nat) (hu:P.underlying dT = some (.slice elem)) (hs:(P.info? elem).map (·.size) = some sz) (hn:Nat.min sLen dLen = 0) :
  (Builtin.copy_ #[dT,sT] ty #[.slice d dLen dCap,.slice a sLen sCap]).run P w = .ok (goInt 0) w:=by
 cases hq:P.info? elem with
 | none=>simp [hq] at hs
 | some i =>
  have hl:∀ (x:Addr),(loadCells x 0).run P w = .ok #[] w:=fun x=>by simpa using run_loadCells_list (P:=P) w x [] (by simp)
  cases d <;> cases a <;> simp [Builtin.copy_,run_underlying hu,Builtin.lenOf,Builtin.firstCells,sizeOf,typeInfo,hq,hn,storeCells,hl]
def RI (n : Nat) (F G:Nat→List D) (j:Nat):List D:=if j<n then F j else G j
theorem XD {t t2 T m b bytes len cap N g e0 sz T2:Nat} {z z':Value} {d:TypeDesc} {x y:Operand} {L:List HE} {T0:TypeId} {F G:Nat→List D} (id i:Nat) (hx:AS.arg ⟨fr,hp⟩ x = .d (sX g len cap)) (hy:DX hp (AS.arg ⟨fr,hp⟩ y) = some (rD T2 sz F N)) (hh:hp[id]? = some (.obj (Bk L))) (hi:L[i]? = some ⟨g,T0,flF G len⟩) (hG:∀ j,(G j).length = sz) (hF:∀ j,(F j).length = sz) (h00:0<sz) (ht:Tab P t (.slice T) m b z') (hT:Tab P T d sz bytes z) (hs:CU hp id (.obj (Bk (L.set i ⟨g,T0,flF (RI N F G) len⟩))) = some hp')
  (hd:Nat.blt e0 n = true) (h:AWl P s0 n ops Q rest ⟨(e0,.d Cl) :: fr,hp'⟩):AWl P s0 n ops Q (⟨some e0,.call { callee:=.builtin .copy,args:=#[x,y],argTypes:=#[t,t2] },ty,ps,af,none⟩ :: rest) ⟨fr,hp⟩:=by
 refine AWl.step rfl fun s ρ a hst K hK=>?_
 have hx':=hst.arg x
 rw [hx] at hx'
 have e1:a.eval x = .slice (some ⟨g,0,none⟩) len cap:=hx'
 obtain ⟨A,c,e2,h3,h4,h5⟩:=BJ hst.hp (hst.arg y) hy
 rw [List.length_map,List.length_range] at e2 h3 h5
 obtain ⟨g1,-⟩:=Dj (hst.hp id _ hh)
 obtain ⟨hT1,hS,cs,h6,h7,h8⟩:=g1 _ (List.mem_of_getElem? hi)
 simp only [BP hG] at h7 h8
 obtain ⟨ii,hii,hz0,hsize,hby⟩:=hT.info
 have hinf:(P.info? T).map (·.size) = some sz:=by rw [hii,Option.map_some,hsize]
 have hCl:∀ j,(RI N F G j).length = sz:=fun j=>by
  unfold RI
  split
  ·exact hF j
  ·exact hG j
 obtain ⟨q,hq⟩:∃ q,q = Nat.min N len:=⟨_,rfl⟩
 have hqN:q≤N:=by rw [hq];exact Nat.min_le_left _ _
 have hql:q≤len:=by rw [hq];exact Nat.min_le_right _ _
 have hql':∀ j,j<len→j<N→j<q:=fun j h1 h2=>by rw [hq];exact Nat.lt_min.2 ⟨h2,h1⟩
 have hqs:q*sz≤len*sz:=Nat.mul_le_mul_right sz hql
 obtain ⟨vs,hvl,hrun,hvs⟩:∃ vs:List Value,vs.length = q*sz∧(execOp a.eval ⟨some e0,.call { callee:=.builtin .copy,args:=#[x,y],argTypes:=#[t,t2] },ty,ps,af,none⟩).run P s.w = .ok (.value (goInt q)) (s.w.setRow g (cs.toList.take 0 ++ vs ++ cs.toList.drop (0+vs.length)).toArray)∧∀ j,j<q*sz→∃ u,vs[j]? = some u∧u.oneCell' = true∧(Bu (flF (RI N F G) len) j).rel s u:=by
  by_cases h0:q = 0
  ·refine ⟨[], by rw [h0, Nat.zero_mul]; rfl, ?_, fun j hj => absurd hj (by rw [h0, Nat.zero_mul]; omega)⟩
   have hrun:=JZ P s.w t t2 ty T (some ⟨g,0,none⟩) A len cap N c sz ht.und hinf (hq ▸ h0)
   have he:s.w.setRow g (cs.toList.take 0 ++ [] ++ cs.toList.drop (0+([]:List Value).length)).toArray = s.w:=by
    simp only [List.take_zero,List.nil_append,List.length_nil,List.drop_zero,Array.toArray_toList]
    exact setRow_self s.w g cs T0 (0,0) h6
   rw [he,h0]
   simp [execOp,resolve,invoke,builtin,e1,e2,hrun]
  ·obtain ⟨g2, p, rfl, h9⟩ := h5 (by omega)
   have hcell:∀ j,j<q*sz→∃ u,s.w.cell? ⟨g2,p+j,none⟩ = some u∧u.oneCell' = true∧(Bu (flF (RI N F G) len) j).rel s u:=fun j hj=>by
    obtain ⟨k1,k2,k3⟩:=MT hj
    obtain ⟨h10,h11⟩:=h9 (j / sz) (by omega)
    have er:((List.range N).map F).getD (j / sz) [] = F (j / sz):=by
     have:j / sz<N:=by omega
     simp [this]
    rw [er] at h11
    obtain ⟨u,h12,h13,h14⟩:=h11.cell (k:=j % sz) (by rw [hF];exact k2)
    rw [Nat.add_assoc,← k3] at h12
    refine ⟨u,h12,h13,?_⟩
    have:Bu (flF (RI N F G) len) j = Bu (F (j / sz)) (j % sz):=by
     unfold Bu
     rw [List.getD_eq_getElem?_getD,List.getD_eq_getElem?_getD]
     congr 1
     conv=>lhs;rw [k3]
     rw [FZ hCl (by omega) k2,RI,if_pos (by omega)]
    rw [this]
    exact h14
   obtain ⟨vf,hvf⟩:∃ vf:Nat→Value,∀ j,j<q*sz→s.w.cell? ⟨g2,p+j,none⟩ = some (vf j)∧(vf j).oneCell' = true∧(Bu (flF (RI N F G) len) j).rel s (vf j):=⟨fun j=>(s.w.cell? ⟨g2,p+j,none⟩).getD undef,fun j hj=>by
    obtain ⟨u,y1,y2,y3⟩:=hcell j hj
    have e:(s.w.cell? ⟨g2,p+j,none⟩).getD undef = u:=by rw [y1];rfl
    show s.w.cell? ⟨g2,p+j,none⟩ = some ((s.w.cell? ⟨g2,p+j,none⟩).getD undef)∧((s.w.cell? ⟨g2,p+j,none⟩).getD undef).oneCell' = true∧(Bu (flF (RI N F G) len) j).rel s ((s.w.cell? ⟨g2,p+j,none⟩).getD undef)
    rw [e]
    exact ⟨y1,y2,y3⟩⟩
   have hvl:((List.range (q*sz)).map vf).length = q*sz:=by simp
   have hva:∀ j u,((List.range (q*sz)).map vf)[j]? = some u→j<q*sz∧u = vf j:=fun j u hu=>by
    rw [List.getElem?_map] at hu
    by_cases hj:j<q*sz
    ·rw [List.getElem?_range hj] at hu
     cases hu
     exact ⟨hj,rfl⟩
    ·rw [List.getElem?_eq_none (by simpa using hj)] at hu
     cases hu
   refine ⟨(List.range (q*sz)).map vf,hvl,?_,fun j hj=>⟨vf j,by simp [hj],(hvf j hj).2⟩⟩
   have hrun := Sj P s.w t t2 ty T g len cap sz ⟨g2, p, none⟩ N c cs T0 ((List.range (q * sz)).map vf) ht.und hinf h6 (by rw [hvl, hq]) (fun j v hv => by
    obtain ⟨hj,rfl⟩:=hva j v hv
    rw [Addr.add_lit]
    exact (hvf j hj).1) (by rw [hvl];omega) (fun v hv=>by
    obtain ⟨j,hj⟩:=List.mem_iff_getElem?.1 hv
    obtain ⟨hj2,e⟩:=hva j v hj
    rw [e]
    exact (hvf j hj2).2.1)
   rw [← hq] at hrun
   simp [execOp,resolve,invoke,builtin,e1,e2,hrun]
 unfold Oper.wp
 rw [hrun]
 have hfin := ES hst hh hi (W := s.w.setRow g (cs.toList.take 0 ++ vs ++ cs.toList.drop (0 + vs.length)).toArray) (cs' := (cs.toList.take 0 ++ vs ++ cs.toList.drop (0 + vs.length)).toArray) (ds' := flF (RI N F G) len) rfl rfl rfl (by simp [World.setRow]) (fun b hb => setRow_other s.w g b _ hb) (setRow_heap s.w g cs _ T0 _ h6)
  (by rw [BP hCl]; simp; omega) (fun k hk => by
   rw [BP hCl] at hk
   rw [GW (by rw [hvl];omega)]
   simp only [Nat.zero_le,true_and,Nat.zero_add,Nat.sub_zero,hvl]
   by_cases hr:k<q*sz
   ·rw [if_pos hr]
    exact hvs k hr
   ·rw [if_neg hr]
    obtain ⟨u,y1,y2,y3⟩:=h8 k hk
    refine ⟨u,y1,y2,?_⟩
    have k0:=MT hk
    obtain ⟨k1,k2,k3⟩:=k0
    have hge:¬ k / sz<N:=fun hlt=>by
     have:=hql' _ k1 hlt
     have h2:(k / sz+1)*sz≤q*sz:=Nat.mul_le_mul_right sz this
     rw [Nat.succ_mul] at h2
     omega
    have:Bu (flF (RI N F G) len) k = Bu (flF G len) k:=by
     unfold Bu
     rw [List.getD_eq_getElem?_getD,List.getD_eq_getElem?_getD]
     congr 1
     conv=>lhs;rw [k3]
     conv=>rhs;rw [k3]
     rw [FZ hCl k1 k2,FZ hG k1 k2,RI,if_neg hge]
    rw [this]
    exact y3) hs
 exact hK _ _ _ h ⟨_,ρ,rfl,hfin.put (GS.Le.refl _) (dst:=some e0) (fun d hd'=>by cases hd';simpa [Nat.blt_eq] using hd) (r:=.d Cl) trivial⟩
end
section
variable {P : Program} {hp:List Ow} {arg:Operand→AV} {dd:Option Tmp} {ty:TypeId} {ps:String} {af:Array Edge} {gd:Option (Nat × Bool)}
theorem YT {T U:TypeId} {x y:Operand} {a n:Nat} (hx:arg x = .d (ex (.int .i64 (a:Nat)))) (hy:arg y = .d (ex (.int .i64 (n:Nat)))) (hn:n≤63) (ha:a*2 ^ n≤9223372036854775807):Quiet P hp ⟨dd,.binOp .shl T x y U,ty,ps,af,gd⟩ arg (.d (ex (.int .i64 ((a*2 ^ n:Nat):Int)))):=by
 refine ⟨fun base s ρ ev hok hbs hhp h=>?_⟩
 have h1:=h x (by simp [Op.operands])
 have h2:=h y (by simp [Op.operands])
 rw [hx] at h1;rw [hy] at h2
 have e1:ev x = .int .i64 (a:Nat):=h1
 have e2:ev y = .int .i64 (n:Nat):=h2
 have hm:Min.min n IntKind.i64.bits = n:=Nat.min_eq_left (by show n≤64;omega)
 have hw:IntKind.i64.wrap ((a:Int)*2 ^ n) = ((a*2 ^ n:Nat):Int):=by
  have e:(a:Int)*2 ^ n = ((a*2 ^ n:Nat):Int):=by norm_cast
  rw [e]
  exact IntWalk.i64_in _ (by omega)
 refine Bd (v:=.int .i64 ((a*2 ^ n:Nat):Int)) ?_ ⟨GS.Le.refl s,rfl⟩
 have hneg:¬ ((n:Int)<0):=by omega
 simp [execOp,e1,e2,eqGuard,binOp,Op.shift,hneg,hm,hw]
theorem Pi {T U:TypeId} {x y:Operand} {a b:Nat} (hx:arg x = .d (ex (.int .u8 (a:Nat)))) (hy:arg y = .d (ex (.int .u8 (b:Nat)))) (ha:a<256) (hb:b<256):Quiet P hp ⟨dd,.binOp .andNot T x y U,ty,ps,af,gd⟩ arg (.d (ex (.int .u8 ((a &&& (255 - b):Nat):Int)))):=by
 refine VE hx hy fun w=>?_
 have h1:(BitVec.ofInt 8 (a:Int) &&& ~~~ BitVec.ofInt 8 (b:Int)).toNat = a &&& (255 - b):=by
  rw [BitVec.toNat_and,BitVec.toNat_not,BitVec.ofInt_natCast,BitVec.ofInt_natCast,BitVec.toNat_ofNat,BitVec.toNat_ofNat,Nat.mod_eq_of_lt ha,Nat.mod_eq_of_lt hb]
 have h2:a &&& (255 - b)<256:=Nat.lt_of_le_of_lt Nat.and_le_left ha
 have h3:IntKind.u8.wrap ((a &&& (255 - b):Nat):Int) = ((a &&& (255 - b):Nat):Int):=by
  unfold IntKind.wrap
  have:(((a &&& (255 - b):Nat):Int)) % (2 ^ IntKind.u8.bits:Int) = ((a &&& (255 - b):Nat):Int):=Int.emod_eq_of_lt (by omega) (by show _<(256:Int);omega)
  simp [this,IntKind.signed]
 have h4:(BitVec.ofInt IntKind.u8.bits (a:Int) &&& ~~~ BitVec.ofInt IntKind.u8.bits (b:Int)).toNat = a &&& (255 - b):=h1
 have h5:((BitVec.ofInt IntKind.u8.bits (a:Int) &&& ~~~ BitVec.ofInt IntKind.u8.bits (b:Int)).toNat:Int) = ((a &&& (255 - b):Nat):Int):=by rw [h4]
 show Sem.run P (do eqGuard .andNot T x y (.int .u8 a) (.int .u8 b);binOp .andNot T (.int .u8 a) (.int .u8 b)) w = _
 simp only [eqGuard,binOp,Op.intBits,h5,h3]
 rfl
end
theorem ZK {a : Nat} (h:a<256):IntKind.u8.wrap (a:Int) = a:=by
 unfold IntKind.wrap
 have:((a:Int)) % (2 ^ IntKind.u8.bits:Int) = (a:Int):=Int.emod_eq_of_lt (by omega) (by show _<(256:Int);omega)
 simp [this,IntKind.signed]
theorem Pg {P : Program} {hp:List Ow} {arg:Operand→AV} {dd:Option Tmp} {ty:TypeId} {ps:String} {af:Array Edge} {gd:Option (Nat × Bool)} {S T:TypeId} {x:Operand} {k:IntKind} {a:Nat} {d:TypeDesc} {n b n' b':Nat} {z z':Value} (hx:arg x = .d (ex (.int k (a:Nat)))) (hS:Tab P S d n b z) (hT:Tab P T (.int .u8) n' b' z') (h:a<256):Quiet P hp ⟨dd,.convert S T x,ty,ps,af,gd⟩ arg (.d (ex (.int .u8 (a:Nat)))):=by
 have:=RQ (dd:=dd) (ty:=ty) (ps:=ps) (af:=af) (gd:=gd) (hp:=hp) hx hS hT
 rwa [ZK h] at this
theorem Mq {y : Nat→Int} {n:Nat} (h:SupN n y):BM y 8 / 2 ^ n = 0:=by
 refine Nat.div_eq_of_lt (Nat.lt_pow_two_of_testBit _ fun i hi=>?_)
 by_cases h8:i<8
 ·rw [FP y 8 i h8]
  have:=(h i h8).2 hi
  simp [this]
 ·refine Nat.testBit_lt_two_pow (Nat.lt_of_lt_of_le (DK y 8) (Nat.pow_le_pow_right (by decide) (by omega)))
theorem UY (l : Ae) (n:Nat) (hn:n≤8) (hl:l.length≤12) (h1:∀ y∈l,In8 y 0 64) (h2:∀ y∈l,SupN n y):Abs Tryz.prog 46 [BT l,ex (.int .i64 (n:Nat))] (ex (.int .i64 0)):=by
 refine SS l n l.length l.length 0 hn (by omega) (Nat.le_refl _) (fun k hk=>⟨fun j hj=>?_,Mq (h2 _ (Gz hk))⟩) (Nat.le_refl _) (.inr ⟨rfl,.inr ⟨hl,fun k hk=>?_,.inr ⟨rfl,rfl⟩⟩⟩)
 ·have:=h1 _ (Gz hk) j hj
  omega
 ·obtain ⟨i,h3,h4,_⟩:=Us (Be l k) 7
  rw [h4]
  exact (h1 _ (Gz hk) i (by omega)).2
theorem To (l : Ae) (n N:Nat) (f:Nat→Int) (ck:Abs Tryz.prog 46 [BT l,ex (.int .i64 (n:Nat))] (ex (.int .i64 0))) (cn:Abs Tryz.prog 47 [BT l] (nD N f)):Abs Tryz.prog 14 [BT l,ex (.int .i64 (n:Nat))] (DV [nD N f,ex (.int .i64 0)]):=by
 refine Ab Tryz.func14 fun s0=>?_
 rw [Tryz.ntmps14]
 refine Y1<|Wa<|Wa<|Y0<|Ac<|Y1<|Wm<|Wm ?_;refine Wq (Ak (ck)) ?_;refine Wa<|Y0<|Y1<|Wm ?_;refine Wq Ar ?_;apply Y0;refine Cf ?_;refine Ys<|Y1<|Wm ?_;refine Wq (Ak (cn)) ?_;refine Wa<|Wa<|Y0 ?_;apply Aw
 exact BZ (CR (ResV.tmp rfl rfl) (ResV.tmp rfl rfl) (Cv (D.le.refl _) (D.le.refl _)))
theorem Yj (n : Nat):List.replicate n (ex (.int .i64 0)) = nC (fun _=>0) n:=by
 unfold nC
 rw [List.map_const',List.length_range]
theorem YI {N : Nat} {f:Nat→Int} (far:∀ i,N≤i→f i = 0):ZE N f (fun _=>0) = f:=by
 funext j
 unfold ZE
 split
 ·rfl
 ·exact (far j (by omega)).symm
theorem Ts (l : Ae) (n d N:Nat) (f:Nat→Int) (B:Int) (hn:n≤8) (hd:d≤64) (ck:Abs Tryz.prog 46 [BT l,ex (.int .i64 (n:Nat))] (ex (.int .i64 0))) (cn:Abs Tryz.prog 47 [BT l] (nD N f)) (far:∀ i,N≤i→f i = 0) (hb:Bnd f d B) (hB:B*((d:Int)+1) ^ n≤9223372036854775807):Abs Tryz.prog 16 [BT l,ex (.int .i64 (n:Nat)),ex (.int .i64 (d:Nat))] (DV [ex (.int .i64 (Cj n f d)),ex (.int .i64 0)]):=by
 have hpow:∀ j,j≤n→B*((d:Int)+1) ^ j≤9223372036854775807:=fun j hj=>by
  refine Int.le_trans (Int.mul_le_mul_of_nonneg_left ?_ hb.pos) hB
  have:(d+1) ^ j≤(d+1) ^ n:=Nat.pow_le_pow_right (by omega) hj
  exact_mod_cast this
 have hadd:∀ j,j<n→∀ i,i<d→-9223372036854775808≤kS (Cj j f) i (i+1)+kS (Cj j f) i i∧kS (Cj j f) i (i+1)+kS (Cj j f) i i≤9223372036854775807:=fun j hj i hi=>by
  have h1:=hb.sumn (j+1) (i+1) (by omega)
  have h2:=hpow (j+1) (by omega)
  have h3:Cj (j+1) f (i+1) = pS (Cj j f) i+Cj j f (i+1):=rfl
  rw [MQ,RA]
  omega
 have hdn:d+1≤1000000:=by omega
 refine Ab Tryz.func16 fun s0=>?_
 rw [Tryz.ntmps16]
 refine Y1<|Wa<|Wa<|Y0<|Ac<|Y1<|Wm<|Wm ?_;refine Wq (Ak (ck)) ?_;refine Wa<|Y0<|Y1<|Wm ?_;refine Wq Ar ?_;apply Y0;refine Cf ?_;refine Ys<|Ac<|Y1<|Wm ?_;refine Wq Ar ?_;refine Wm ?_;refine Wg Af ?_;refine Wg Ar ?_;refine Wq Bi ?_;apply Y0;refine Cf ?_;refine Ys<|Y1<|Wm ?_;refine Wq AM ?_;refine XC (c:=d+1) (ao rfl) (ao rfl) (Aa rfl) (Aa rfl) rfl rfl hdn rfl rfl rfl rfl (fun g=>rfl) fun g=>?_;refine Wa<|Y0<|Y1<|Wm<|Wm ?_;refine Wq (Ak (cn)) ?_;refine XE (f:=f) (N:=N) (len:=d+1) 0 0 (ao rfl) rfl rfl (congrArg (fun ds=>some (HE.mk g 3 ds)) (Yj (d+1))) (Aa rfl) (Aa rfl) rfl rfl ?_;refine Y0<|Ac<|Y1<|Wm<|Wm<|Y0<|AWp.block ?_
 refine AO (fun mz σ=>∃ k,k≤n∧mz = n - k∧σ = ⟨[(2,.d (ex (.int .i64 (d:Nat)))),(9,.d (sX g (d+1) (d+1))),(30,.d (ex (.int .i64 (n:Nat)))),(31,.d (ex (.int .i64 (k:Nat))))],[.obj (Bk [⟨g,3,nC (Cj k f) (d+1)⟩])]⟩) ?le ⟨0,by omega,rfl,rfl⟩ ?round
 case le=>exact Aj (by exact Yd<|Yd<|Yd<|Yd<|FrLe.nil) (by (refine HpLe.cons (OwLe.obj (by rw [YI far];rfl)) ?_);exact HpLe.nil)
 case round =>
  rintro mz _ ⟨k,hk,rfl,rfl⟩
  by_cases hlt:k<n
  ·apply Y1;refine Wq Am ?_;refine Y0<|Ac ?_;refine Ct ?_;refine Ys<|Ac<|AWp.block<|Y1<|Wm<|Wm<|Y0<|AWp.block ?_
   refine AO (fun mz σ=>∃ i,i≤d∧mz = d - i∧σ = ⟨[(2,.d (ex (.int .i64 (d:Nat)))),(9,.d (sX g (d+1) (d+1))),(30,.d (ex (.int .i64 (n:Nat)))),(31,.d (ex (.int .i64 (k:Nat)))),(33,.d (ex (.int .i64 (d:Nat)))),(34,.d (ex (.int .i64 (i:Nat))))],[.obj (Bk [⟨g,3,nC (kS (Cj k f) i) (d+1)⟩])]⟩) ?lei ⟨0,by omega,rfl,rfl⟩ ?roundi
   case lei=>exact Aj (by exact Yd<|Yd<|Yd<|Yd<|Yd<|Yd<|FrLe.nil) (by exact HpLe.cons (OwLe.obj (by rw [Ry]))<|HpLe.nil)
   case roundi =>
    rintro mz _ ⟨i,hi,rfl,rfl⟩
    by_cases hlti:i<d
    ·have ha:=hadd k hlt i hlti
     have hst:SetAt (nC (kS (Cj k f) i) (d+1)) ((i+1)*1) [ex (.int .i64 (kS (Cj k f) i (i+1)+kS (Cj k f) i i))] (nC (kS (Cj k f) (i+1)) (d+1)):=Rz (Cj k f) i ▸ PO (by omega)
     apply Y1;refine Wq Am ?_;refine Y0<|Ac ?_;refine Ct ?_;refine Ys<|Ac<|AWp.block<|Y1<|Wm<|Wa<|Y0 ?_
     refine Dr [[],[],[(38,1)],[(37,0),(39,2)],[(40,3)],[],[],[(42,5),(43,6)],[(44,7)],[(41,4),(45,8)],[(37,0),(39,2)]] [[],[],[1],[0,1,2],[0,1,2,3],[],[],[5,6],[5,6,7],[0,1,2,3,4,5,6,7,8],[0,1,2,3,4,5,6,7,8,9]] ?_
     refine Xq Af ?_;refine Xq Af ?_;refine Xq AM ?_;refine Xq (CA (k:=i+1) (ah rfl) (ah rfl) (Aa rfl) (Aa rfl) (by omega)) ?_;refine Xq (Nm (e:=⟨g,3,nC (kS (Cj k f) i) (d+1)⟩) 0 0 (ah rfl) rfl rfl (Aa rfl) rfl (Fk (by omega))) ?_;refine Xq Af ?_;refine Xq Af ?_;refine Xq (CA (k:=i) (ah rfl) (ah rfl) (Aa rfl) (Aa rfl) (by omega)) ?_;refine Xq (Nm (e:=⟨g,3,nC (kS (Cj k f) i) (d+1)⟩) 0 0 (ah rfl) rfl rfl (Aa rfl) rfl (Fk (by omega))) ?_;refine Xq EX ?_;refine Xq (CA (k:=i+1) (ah rfl) (ah rfl) (Aa rfl) (Aa rfl) (by omega)) ?_;refine ⟨_,rfl,?_⟩
     refine VM (e:=⟨g,3,nC (kS (Cj k f) i) (d+1)⟩) 0 0 (ao rfl) (ao rfl) rfl rfl (Aa rfl) (CH rfl) hst rfl ?_;apply AWl.nil;apply Aq;refine Yn<|AWp.region ?_;refine Wq AM ?_;refine Wm ?_;apply AWl.nil
     refine ALoop.next (d - (i+1)) (by omega) ⟨i+1,by omega,rfl,rfl⟩ ?_
     exact Aj (by exact Yd<|Yd<|Yd<|Yd<|Yd<|Yd<|FrLe.nil) (by exact HpLe.cons (OwLe.obj rfl)<|HpLe.nil)
    ·obtain rfl : d = i := by omega
     apply Y1;refine Wq Ar ?_;refine Y0<|Ac ?_;refine Cf ?_;apply AK;apply AA;apply AB;apply AC;apply Aq;refine Yn<|AWp.region ?_;refine Wq AM ?_;refine Wm ?_;apply AWl.nil
     refine ALoop.next (n - (k+1)) (by omega) ⟨k+1,by omega,rfl,rfl⟩ ?_
     exact Aj (by exact Yd<|Yd<|Yd<|Yd<|FrLe.nil) (by refine HpLe.cons (OwLe.obj (by rw [Ur (f:=kS (Cj k f) d) (f':=Cj (k+1) f) fun t ht=>if_pos (by omega)])) ?_;exact HpLe.nil)
  ·obtain rfl : k = n := by omega
   apply Y1;refine Wq Ar ?_;refine Y0<|Ac ?_;refine Cf ?_;apply AK;apply AA;apply AB;apply AC;refine Yn<|Y1<|Wm<|Wm ?_;refine Wq (CA (k:=d) (ao rfl) (ao rfl) (Aa rfl) (Aa rfl) (by omega)) ?_;refine Wq (Nm (e:=⟨g,3,nC (Cj k f) (d+1)⟩) 0 0 (ao rfl) rfl rfl (Aa rfl) rfl (Fk (by omega))) ?_;refine Wa<|Wa<|Y0 ?_;apply Aw
   exact BZ (CR (ResV.tmp rfl rfl) (ResV.tmp rfl rfl) (Cv (D.le.refl _) (D.le.refl _)))
def Lj (a : Nat→Int) (s:Nat):Bool:=decide (((BM a 8 &&& (255 - s):Nat):Int) = 0)
abbrev XV (s : Nat):Ow:=.var 3 [.d (ex (.int .i64 (s:Nat)))]
theorem Km (a : Nat→Int) (s:Nat) (hs:s<256):Con Tryz.prog 101 [.d (BX (AL a)),.ptr 0 0] [XV s] [] (fun r hp'=>r = .d (ex (.bool (Lj a s)))∧hp' = [XV s,.dead,.var 55 ((AL a).map .d)]):=by
 have hsl:BM a 8<256:=DK a 8
 refine Bt Tryz.func101 rfl (As Tryz.func101 (by kernel_rfl) (by kernel_rfl)) rfl fun s0 pv0=>?_
 rw [Tryz.ntmps101]
 apply Y1;refine Bx ?_;refine Wa<|Y0<|Ac ?_
 refine Dr [[],[(4,0)],[],[(6,2)],[(5,1),(7,3)],[(8,4)]] [[],[0],[],[2],[0,1,2,3],[0,1,2,3,4]] ?_
 refine Xq AQ ?_;refine Xq (Ak (FW a)) ?_;refine Xq GY ?_;refine Xq (Pg (a:=s) (ah rfl) (Aa rfl) (Aa rfl) hs) ?_;refine Xq (Pi (a:=BM a 8) (b:=s) (ah rfl) (ah rfl) hsl hs) ?_;refine Xq Vq ?_;refine ⟨_,rfl,?_⟩
 refine Wa<|Y0 ?_;apply Aw
 refine Bj (RetsA.one rfl) rfl ?_ rfl
 exact ⟨rfl,rfl⟩
theorem Qx (l : Ae) (s z:Nat) (hs:s<256) (hl:l.length≤1000) (hz:z≤l.length) (hp:∀ k,k<z→Lj (Be l k) s = false) (he:z<l.length→Lj (Be l z) s = true):Con Tryz.prog 138 [.d (BT l),.fn 101 [0]] [XV s] [] (fun r hp'=>r = .d (ex (.int .i64 (if z<l.length then (z:Nat) else -1)))∧∃ tl,hp' = XV s :: .dead :: tl∧(tl = []∨∃ a:Nat→Int,tl = [.dead,.var 55 ((AL a).map .d)])):=by
 refine Bt Tryz.func138 rfl (As Tryz.func138 (by kernel_rfl) (by kernel_rfl)) rfl fun s0 pv0=>?_
 rw [Tryz.ntmps138]
 refine Y1<|Wa<|Y0<|Ac<|Y1<|Wm ?_;refine Wq (CS rfl rfl (Aa rfl)) ?_;refine Wm<|Y0<|AWp.block ?_
 refine AO (fun mz σ=>∃ k,k≤z∧mz = z - k∧σ = ⟨[(0,.d (BT l)),(1,.fn 101 [0]),(6,.d (BT l)),(7,.d (ex (.int .i64 (l.length:Nat)))),(8,.d (ex (.int .i64 (k:Nat))))],[XV s,.pin [(pv0,.own 0)]]⟩) ?le ⟨0,by omega,rfl,rfl⟩ ?round
 case le=>exact Aj (by exact Yd<|FrLe.cons rfl (AVle.fn rfl)<|Yd<|Yd<|Yd<|FrLe.nil) (by exact HpLe.cons (BF rfl)<|HpLe.cons (Ba rfl)<|HpLe.nil)
 case round =>
  rintro mz _ ⟨k,hk,rfl,rfl⟩
  by_cases hlt:k<z
  ·have hlt' : k < l.length := by omega
   have hk:=hp k hlt
   apply Y1;refine Wq Am ?_;refine Y0<|Ac ?_;refine Ct ?_;refine Ys<|Ac<|AWp.block<|Y1<|Wm<|Wa<|Y0<|Y1<|Wm<|Wm<|Wm ?_;refine Wq BE ?_;refine Wq Bw ?_
   refine Bc [0] [0] (Km (Be l k) s hs) (by first | exact Or.inl rfl | exact Or.inr ⟨by decide,rfl,by repeat (first | exact AvoidR.nil | refine AF rfl ?_ | refine AvoidR.dead ?_ | refine AJ ?_ | refine AvoidR.obj ?_ | refine AD ?_ | refine AE rfl ?_ | refine AvoidR.pin rfl ?_)⟩) rfl rfl (by first | exact .inl ⟨rfl,rfl⟩ | exact .inr ⟨rfl,rfl⟩) (by repeat (first | exact ArgsC.nil | refine ArgsC.d rfl (D.le.refl _) ?_ | refine AT rfl rfl ?_)) (by decide) (by repeat (first | exact SelR.nil | refine SelR.var rfl ?_ | refine SelR.obj rfl ?_ | refine AZ rfl ?_ | refine AR rfl rfl rfl ?_)) (by repeat (first | exact trivial | refine ⟨⟨_,_,rfl⟩,?_⟩)) rfl ?_
   rintro _ _ ⟨rfl,rfl⟩
   refine ⟨_,_,_,(by first | exact AVRen.d | exact AVRen.own rfl | exact AVRen.ptr rfl | exact AVRen.fn rfl),(by repeat (first | exact SetR.nil | (apply SetR.cons;(first | exact OwRen.dead | exact Ah | exact OwRen.obj | exact Ao | exact Ai rfl);exact rfl))),(by repeat (first | exact AppR.nil | (apply AppR.cons;(first | exact OwRen.dead | exact Ah | exact OwRen.obj | exact Ao | exact Ai rfl);exact rfl))),?_⟩
   try simp only [AU,Bg]
   rw [hk]
   apply Y0;refine Cf ?_;apply Bv;apply Aq;refine Yn<|AWp.region ?_;refine Wq AM ?_;refine Wm ?_;apply AWl.nil
   refine ALoop.next (z - (k+1)) (by omega) ⟨k+1,by omega,rfl,rfl⟩ ?_
   exact Aj (by exact Yd<|FrLe.cons rfl (AVle.fn rfl)<|Yd<|Yd<|Yd<|FrLe.nil) (by exact HpLe.cons (BF rfl)<|HpLe.cons (Ba rfl)<|HpLe.nil)
  ·obtain rfl : k = z := by omega
   by_cases hlt:k<l.length
   ·have hk:=he hlt
    apply Y1;refine Wq Am ?_;refine Y0<|Ac ?_;refine Ct ?_;refine Ys<|Ac<|AWp.block<|Y1<|Wm<|Wa<|Y0<|Y1<|Wm<|Wm<|Wm ?_;refine Wq BE ?_;refine Wq Bw ?_
    refine Bc [0] [0] (Km (Be l k) s hs) (by first | exact Or.inl rfl | exact Or.inr ⟨by decide,rfl,by repeat (first | exact AvoidR.nil | refine AF rfl ?_ | refine AvoidR.dead ?_ | refine AJ ?_ | refine AvoidR.obj ?_ | refine AD ?_ | refine AE rfl ?_ | refine AvoidR.pin rfl ?_)⟩) rfl rfl (by first | exact .inl ⟨rfl,rfl⟩ | exact .inr ⟨rfl,rfl⟩) (by repeat (first | exact ArgsC.nil | refine ArgsC.d rfl (D.le.refl _) ?_ | refine AT rfl rfl ?_)) (by decide) (by repeat (first | exact SelR.nil | refine SelR.var rfl ?_ | refine SelR.obj rfl ?_ | refine AZ rfl ?_ | refine AR rfl rfl rfl ?_)) (by repeat (first | exact trivial | refine ⟨⟨_,_,rfl⟩,?_⟩)) rfl ?_
    rintro _ _ ⟨rfl,rfl⟩
    refine ⟨_,_,_,(by first | exact AVRen.d | exact AVRen.own rfl | exact AVRen.ptr rfl | exact AVRen.fn rfl),(by repeat (first | exact SetR.nil | (apply SetR.cons;(first | exact OwRen.dead | exact Ah | exact OwRen.obj | exact Ao | exact Ai rfl);exact rfl))),(by repeat (first | exact AppR.nil | (apply AppR.cons;(first | exact OwRen.dead | exact Ah | exact OwRen.obj | exact Ao | exact Ai rfl);exact rfl))),?_⟩
    try simp only [AU,Bg]
    rw [hk]
    apply Y0;refine Ct ?_;refine Y1<|Wm<|Wa<|Y0 ?_;apply Aw;apply Ca;apply Bb;apply En;apply Ca;apply Bb
    refine Bj (RetsA.one rfl) rfl ?_ rfl
    exact ⟨by rw [if_pos hlt],_,rfl,.inr ⟨_,rfl⟩⟩
   ·apply Y1;refine Wq Ar ?_;refine Y0<|Ac ?_;refine Cf ?_;apply AK;apply AA;apply AB;apply AC;refine Yn<|Y1<|Wa<|Y0 ?_;apply Aw
    refine Bj (RetsA.one rfl) rfl ?_ rfl
    exact ⟨by rw [if_neg hlt],_,rfl,.inl rfl⟩
theorem Rf {e : Nat→Nat} {T:TypeId} {x:D}:Ow.ren e (.var T [.d x]) = .var T ([x].map .d):=rfl
theorem UI {m T:Nat} {u:D}:Low m (.var T [.d u]):=Low.var fun av hav m' ρ s v h=>by
 rw [List.mem_singleton.1 hav] at h ⊢
 exact h
theorem Pp {P : Program} {f:FuncId} {args:List AV} {s:Nat} {T:Nat} {u x:D} (h:Con P f args [.var T [.d u]] [] (fun r hp'=>r = .d x∧∃ tl,hp' = .var T [.d u] :: .dead :: tl)):Con P f args [.var T [.d u]] [] (fun r hp'=>r = .d x∧hp' = [.var T [.d u],.dead]) :=
 h.cut fun r hp' ⟨h1, tl, h2⟩ => ⟨x, [.var T [.d u], .dead], tl, h1, h2, by simp, fun o ho => by
  rcases List.mem_cons.1 ho with rfl | ho
  ·exact UI
  ·rw [List.mem_singleton.1 ho]
   exact Low.dead,rfl,rfl⟩
theorem WY (p : (Nat→Int)→Bool) (l:Ae):∃ z,z≤l.length∧(∀ k,k<z→p (Be l k) = false)∧(z<l.length→p (Be l z) = true)∧l.any p = decide (z<l.length):=by
 induction l with
 | nil=>exact ⟨0,Nat.le_refl 0,fun k hk=>absurd hk (by omega),fun h=>absurd h (by simp),rfl⟩
 | cons a l ih =>
  cases ha:p a with
  | true=>exact ⟨0,by simp,fun k hk=>absurd hk (by omega),fun _=>ha,by simp [ha]⟩
  | false =>
   obtain ⟨z,h1,h2,h3,h4⟩:=ih
   refine ⟨z+1,by simpa using h1,fun k hk=>?_,fun h=>h3 (by simpa using h),by simp [ha,h4]⟩
   cases k with
   | zero=>exact ha
   | succ k=>exact h2 k (by omega)
theorem Tu (l : Ae) (s:Nat) (hs:s<256) (hl:l.length≤1000):Con Tryz.prog 102 [.d (BT l),.fn 101 [0]] [XV s] [] (fun r hp'=>r = .d (ex (.bool (l.any (Lj · s))))∧hp' = [XV s,.dead,.dead]):=by
 obtain ⟨z,h1,h2,h3,h4⟩:=WY (Lj · s) l
 rw [h4]
 have c:=(Qx l s z hs hl h1 h2 h3).mono (Q':=fun r hp'=>r = .d (ex (.int .i64 (if z<l.length then (z:Nat) else -1)))∧∃ tl,hp' = XV s :: .dead :: tl) fun r hp' ⟨q1,tl,q2,_⟩=>⟨q1,tl,q2⟩
 have c:=Pp (s:=s) c
 by_cases hz:z<l.length
 ·rw [if_pos hz] at c
  rw [decide_eq_true hz]
  refine Bt Tryz.func102 rfl (As Tryz.func102 (by kernel_rfl) (by kernel_rfl)) rfl fun s0 pv0=>?_
  rw [Tryz.ntmps102]
  refine Y1<|Wa<|Y0<|Y1<|Wm<|Wm ?_
  refine Bc [0] [] (c) (by first | exact Or.inl rfl | exact Or.inr ⟨by decide,rfl,by repeat (first | exact AvoidR.nil | refine AF rfl ?_ | refine AvoidR.dead ?_ | refine AJ ?_ | refine AvoidR.obj ?_ | refine AD ?_ | refine AE rfl ?_ | refine AvoidR.pin rfl ?_)⟩) rfl rfl (by first | exact .inl ⟨rfl,rfl⟩ | exact .inr ⟨rfl,rfl⟩) (by repeat (first | exact ArgsC.nil | refine ArgsC.d rfl (D.le.refl _) ?_ | refine AT rfl rfl ?_)) (by decide) (by repeat (first | exact SelR.nil | refine SelR.var rfl ?_ | refine SelR.obj rfl ?_ | refine AZ rfl ?_ | refine AR rfl rfl rfl ?_)) (by repeat (first | exact trivial | refine ⟨⟨_,_,rfl⟩,?_⟩)) rfl ?_
  rintro _ _ ⟨rfl,rfl⟩
  refine ⟨_,_,_,(by first | exact AVRen.d | exact AVRen.own rfl | exact AVRen.ptr rfl | exact AVRen.fn rfl),(by repeat (first | exact SetR.nil | (apply SetR.cons;(first | exact OwRen.dead | exact Ah | exact OwRen.obj | exact Ao | exact Ai rfl);exact rfl))),(by repeat (first | exact AppR.nil | (apply AppR.cons;(first | exact OwRen.dead | exact Ah | exact OwRen.obj | exact Ao | exact Ai rfl);exact rfl))),?_⟩
  try simp only [AU,Bg]
  refine Wq Am ?_;refine Wa<|Y0 ?_;apply Aw
  refine Bj (RetsA.one rfl) rfl ?_ rfl
  exact ⟨rfl,rfl⟩
 ·rw [if_neg hz] at c
  rw [decide_eq_false hz]
  refine Bt Tryz.func102 rfl (As Tryz.func102 (by kernel_rfl) (by kernel_rfl)) rfl fun s0 pv0=>?_
  rw [Tryz.ntmps102]
  refine Y1<|Wa<|Y0<|Y1<|Wm<|Wm ?_
  refine Bc [0] [] (c) (by first | exact Or.inl rfl | exact Or.inr ⟨by decide,rfl,by repeat (first | exact AvoidR.nil | refine AF rfl ?_ | refine AvoidR.dead ?_ | refine AJ ?_ | refine AvoidR.obj ?_ | refine AD ?_ | refine AE rfl ?_ | refine AvoidR.pin rfl ?_)⟩) rfl rfl (by first | exact .inl ⟨rfl,rfl⟩ | exact .inr ⟨rfl,rfl⟩) (by repeat (first | exact ArgsC.nil | refine ArgsC.d rfl (D.le.refl _) ?_ | refine AT rfl rfl ?_)) (by decide) (by repeat (first | exact SelR.nil | refine SelR.var rfl ?_ | refine SelR.obj rfl ?_ | refine AZ rfl ?_ | refine AR rfl rfl rfl ?_)) (by repeat (first | exact trivial | refine ⟨⟨_,_,rfl⟩,?_⟩)) rfl ?_
  rintro _ _ ⟨rfl,rfl⟩
  refine ⟨_,_,_,(by first | exact AVRen.d | exact AVRen.own rfl | exact AVRen.ptr rfl | exact AVRen.fn rfl),(by repeat (first | exact SetR.nil | (apply SetR.cons;(first | exact OwRen.dead | exact Ah | exact OwRen.obj | exact Ao | exact Ai rfl);exact rfl))),(by repeat (first | exact AppR.nil | (apply AppR.cons;(first | exact OwRen.dead | exact Ah | exact OwRen.obj | exact Ao | exact Ai rfl);exact rfl))),?_⟩
  try simp only [AU,Bg]
  refine Wq Ar ?_;refine Wa<|Y0 ?_;apply Aw
  refine Bj (RetsA.one rfl) rfl ?_ rfl
  exact ⟨rfl,rfl⟩
def Sd (L : List Nat):D:=slD 5 1 (L.map fun s=>[ex (.int .u8 (s:Nat))])
def MS (l : Ae) (s:Nat):Bool := !l.any (Lj · s)
def DJ (l : Ae) (k:Nat):List Nat:=(List.range k).filter (MS l)
theorem LS (l : Ae) (k:Nat):DJ l (k+1) = if MS l k = true then DJ l k ++ [k] else DJ l k:=by
 unfold DJ
 rw [List.range_succ,List.filter_append,List.filter_cons]
 split <;> simp
theorem MR (l : Ae) (k:Nat):(DJ l k).length≤k:=by
 have:=List.length_filter_le (MS l) (List.range k)
 rwa [List.length_range] at this
theorem QM (L : List Nat) (k:Nat):(L.map fun s=>[ex (.int .u8 ((s:Nat):Int))]) ++ [[ex (.int .u8 ((k:Nat):Int))]] = (L ++ [k]).map fun s=>[ex (.int .u8 ((s:Nat):Int))]:=by simp
theorem LR (l : Ae) (n:Nat) (hn:n≤8) (hl:l.length≤1000):Abs Tryz.prog 52 [BT l,ex (.int .i64 (n:Nat))] (Sd (DJ l (2 ^ n))):=by
 have h256:2 ^ n≤256:=by
  have:=Nat.pow_le_pow_right (n:=2) (by decide) hn
  exact this
 have hsh:1*2 ^ n≤9223372036854775807:=by omega
 have e1:1*2 ^ n = 2 ^ n:=Nat.one_mul _
 refine Ab Tryz.func52 fun s0=>?_
 rw [Tryz.ntmps52]
 refine Y1<|Wa<|Y0<|Y1<|Wa<|Y0<|Ac<|Y1<|Wm ?_;refine Wq (YT (a:=1) (n:=n) (ao rfl) (ao rfl) (by omega) hsh) ?_;refine Wm<|Y0<|AWp.block ?_
 refine HL 5 5 1 rfl (by decide) (by decide) rfl rfl ?_
 rw [e1]
 generalize hN:2 ^ n = N at h256 ⊢
 refine AO (fun mz σ=>∃ k,k≤N∧mz = N - k∧σ = ⟨[(0,.d (BT l)),(5,.own 0),(9,.d (ex (.int .i64 (N:Nat)))),(10,.d (ex (.int .i64 (k:Nat))))],[.row 5 1 ((DJ l k).map fun s=>[ex (.int .u8 (s:Nat))])]⟩) ?le ⟨0,by omega,rfl,rfl⟩ ?round
 case le=>exact Aj (by exact Yd<|FrLe.cons rfl (AVle.own rfl)<|Yd<|Yd<|FrLe.nil) (by exact Yr<|HpLe.nil)
 case round =>
  rintro mz _ ⟨k,hk,rfl,rfl⟩
  by_cases hlt:k<N
  ·have hk : k < 256 := by omega
   have hle:=MR l k
   apply Y1;refine Wq Am ?_;refine Y0<|Ac ?_;refine Ct ?_;refine Ys<|Ac<|AWp.block<|Y1<|Wm ?_;refine Al ?_;refine Iw (ao rfl) (ao rfl) rfl (Aa rfl) (by first | exact CH rfl | exact One.sl | exact Fw) rfl rfl ?_;refine Y0<|Y1 ?_;refine Wq (Fm [1] rfl) ?_;refine Wa<|Y0<|Y1<|Wm<|Wm ?_
   refine Bc [1] [] (Tu l k hk hl) (by first | exact Or.inl rfl | exact Or.inr ⟨by decide,rfl,by repeat (first | exact AvoidR.nil | refine AF rfl ?_ | refine AvoidR.dead ?_ | refine AJ ?_ | refine AvoidR.obj ?_ | refine AD ?_ | refine AE rfl ?_ | refine AvoidR.pin rfl ?_)⟩) rfl rfl (by first | exact .inl ⟨rfl,rfl⟩ | exact .inr ⟨rfl,rfl⟩) (by repeat (first | exact ArgsC.nil | refine ArgsC.d rfl (D.le.refl _) ?_ | refine AT rfl rfl ?_)) (by decide) (by repeat (first | exact SelR.nil | refine SelR.var rfl ?_ | refine SelR.obj rfl ?_ | refine AZ rfl ?_ | refine AR rfl rfl rfl ?_)) (by repeat (first | exact trivial | refine ⟨⟨_,_,rfl⟩,?_⟩)) rfl ?_
   rintro _ _ ⟨rfl,rfl⟩
   refine ⟨_,_,_,(by first | exact AVRen.d | exact AVRen.own rfl | exact AVRen.ptr rfl | exact AVRen.fn rfl),(by repeat (first | exact SetR.nil | (apply SetR.cons;(first | exact OwRen.dead | exact Ah | exact OwRen.obj | exact Ao | exact Ai rfl);exact rfl))),(by repeat (first | exact AppR.nil | (apply AppR.cons;(first | exact OwRen.dead | exact Ah | exact OwRen.obj | exact Ao | exact Ai rfl);exact rfl))),?_⟩
   try simp only [AU,Bg,Rf]
   cases hb:l.any (Lj · k) with
   | true =>
    refine Wq Ec ?_;apply Y0;refine Cf ?_;apply Bv;apply Aq;refine Yn<|AWp.region ?_;refine Wq AM ?_;refine Wm ?_;apply AWl.nil
    refine ALoop.next (N - (k+1)) (by omega) ⟨k+1,by omega,rfl,rfl⟩ ?_
    exact Aj (by exact Yd<|FrLe.cons rfl (AVle.own rfl)<|Yd<|Yd<|FrLe.nil) (by (refine HpLe.cons (CB (by rw [LS,if_neg (by rw [MS,hb];decide)])) ?_);exact HpLe.nil)
   | false =>
    refine Wq Ec ?_;apply Y0;refine Ct ?_;refine AWp.region<|Wm ?_;refine Wq BL ?_;refine Wq (Pg (a:=k) (ao rfl) (Aa rfl) (Aa rfl) hk) ?_;(refine CM rfl rfl ?_;(refine DD (Aa rfl) (Aa rfl) rfl rfl rfl rfl rfl ?_;(repeat ((first | refine ⟨_,Bp (ao rfl),?_⟩ | refine ⟨_,Po rfl,?_⟩);refine ⟨_,rfl,?_⟩));refine ⟨_,rfl,?_⟩));(refine Nt (ao rfl) rfl rfl (Aa rfl) (Aa rfl) rfl rfl (by simp [Cu];omega) (by simp [Cu];omega) rfl (by first | ((repeat (first | exact PlainHp.nil | refine PlainHp.var ?_ | refine Df ?_ | refine PlainHp.dead ?_ | refine PlainHp.obj ?_ | refine PlainHp.pin rfl ?_ | refine CP rfl ?_));done) | fail) rfl ?_);refine Wa ?_;apply AWl.nil;apply Aq;refine Yn<|AWp.region ?_;refine Wq AM ?_;refine Wm ?_;apply AWl.nil
    refine ALoop.next (N - (k+1)) (by omega) ⟨k+1,by omega,rfl,rfl⟩ ?_
    exact Aj (by exact Yd<|FrLe.cons rfl (AVle.own rfl)<|Yd<|Yd<|FrLe.nil) (by (refine HpLe.cons (CB (by rw [LS,if_pos (by rw [MS,hb];rfl)];exact QM _ k)) ?_);exact HpLe.nil)
  ·obtain rfl : k = N := by omega
   apply Y1;refine Wq Ar ?_;refine Y0<|Ac ?_;refine Cf ?_;apply AK;apply AA;apply AB;apply AC;refine Yn<|Y1<|Wm<|Wa<|Y0 ?_;apply Aw
   exact Yf
def DW (s : Nat):Nat:=s % 2+s / 2 % 2+s / 4 % 2+s / 8 % 2+s / 16 % 2+s / 32 % 2+s / 64 % 2+s / 128 % 2
theorem Rj (s : Nat):DW s≤8:=by
 unfold DW
 omega
section
variable {P : Program} {hp:List Ow} {arg:Operand→AV} {dd:Option Tmp} {ty:TypeId} {ps:String} {af:Array Edge} {gd:Option (Nat × Bool)}
theorem WT {s : ByteArray} {i:Nat} {b:UInt8} (h:s.data[i]? = some b):s[i]? = some b:=by
 obtain ⟨hi,h⟩:=Array.getElem?_eq_some_iff.1 h
 have hi':i<s.size:=hi
 rw [getElem?_pos s i hi']
 exact congrArg some h
theorem Vz {t : TypeId} {x y:Operand} {s:ByteArray} {κ:IntKind} {i n b:Nat} {z:Value} {u:UInt8} (hx:arg x = .d (ex (.string s))) (hy:arg y = .d (ex (.int κ (i:Nat)))) (ht:Tab P t .string n b z) (hb:s.data[i]? = some u):Quiet P hp ⟨dd,.index t x y,ty,ps,af,gd⟩ arg (.d (ex (.int .u8 u.toNat))):=by
 refine ⟨fun base w ρ ev hok hbs hhp h=>?_⟩
 have h1:=h x (by simp [Op.operands])
 have h2:=h y (by simp [Op.operands])
 rw [hx] at h1;rw [hy] at h2
 have e1:ev x = .string s:=h1
 have e2:ev y = .int κ (i:Nat):=h2
 refine Bd (v:=.int .u8 u.toNat) ?_ ⟨GS.Le.refl w,rfl⟩
 have hi:(0:Int)≤(i:Int):=by omega
 simp [execOp,e1,e2,Instr.index,asIntOf,run_underlying ht.und,WT hb]
end
theorem Wv {A : Array UInt8} (h:((List.range 256).all fun i=>A[i]? == some (UInt8.ofNat (DW i))) = true) {i:Nat} (hi:i<256):A[i]? = some (UInt8.ofNat (DW i)):=by
 have:=List.all_eq_true.1 h i (List.mem_range.2 hi)
 exact eq_of_beq this
theorem Ul (s : Nat) (hs:s<256):Abs Tryz.prog 104 [ex (.int .u8 (s:Nat))] (ex (.int .i64 (DW s:Nat))):=by
 have hp:=Rj s
 have e:(((UInt8.ofNat (DW s)).toNat:Nat):Int) = ((DW s:Nat):Int):=by
  have:(UInt8.ofNat (DW s)).toNat = DW s:=by
   rw [UInt8.toNat_ofNat']
   exact Nat.mod_eq_of_lt (by omega)
  rw [this]
 refine Ab Tryz.func104 fun s0=>?_
 rw [Tryz.ntmps104]
 refine Y1<|Wa<|Y0<|Y1<|Wm ?_;refine Wq (Vz (i:=s) (u:=UInt8.ofNat (DW s)) (ao rfl) (ao rfl) (Aa rfl) (Wv (by kernel_rfl) hs)) ?_;refine Wq (Hc (a:=((DW s:Nat):Int)) ((ao rfl).trans (by rw [e])) (Aa rfl) (Aa rfl) (by omega) (by omega)) ?_;refine Wa<|Y0 ?_;apply Aw
 exact Yf
def HF (L : List Nat):Int:=L.foldl (fun d s=>max d ((DW s:Nat):Int)) (-1)
theorem Iz {L : List Nat} {k:Nat} (h:k<L.length):L.take (k+1) = L.take k ++ [L.getD k default]:=by
 rw [List.take_add_one,List.getElem?_eq_getElem h,List.getD_eq_getElem?_getD,List.getElem?_eq_getElem h]
 rfl
theorem SO (L : List Nat) (s:Nat):HF (L ++ [s]) = max (HF L) ((DW s:Nat):Int):=by
 unfold HF
 rw [List.foldl_append]
 rfl
theorem Jy (L : List Nat):-1≤HF L∧HF L≤8:=by
 have:∀ (L:List Nat) (d:Int),-1≤d→d≤8→-1≤L.foldl (fun d s=>max d ((DW s:Nat):Int)) d∧L.foldl (fun d s=>max d ((DW s:Nat):Int)) d≤8:=by
  intro L
  induction L with
  | nil=>exact fun d h1 h2=>⟨h1,h2⟩
  | cons s L ih =>
   intro d h1 h2
   have:=Rj s
   exact ih (max d ((DW s:Nat):Int)) (by omega) (by omega)
 exact this L (-1) (by omega) (by omega)
theorem RB {l : Ae} {n:Nat} {s:Nat} (h:s∈DJ l n):s<n:=List.mem_range.1 (List.mem_filter.1 h).1
theorem SN (l : Ae) (n:Nat) (hn:n≤8) (hl:l.length≤1000):Abs Tryz.prog 55 [BT l,ex (.int .i64 (n:Nat))] (ex (.int .i64 (HF (DJ l (2 ^ n))))):=by
 have h256:2 ^ n≤256:=by
  have:=Nat.pow_le_pow_right (n:=2) (by decide) hn
  exact this
 have ci:=LR l n hn hl
 have hL:∀ k,k<(DJ l (2 ^ n)).length→(DJ l (2 ^ n)).getD k default<256:=fun k hk=>by
  have:(DJ l (2 ^ n)).getD k default∈DJ l (2 ^ n):=by
   rw [List.getD_eq_getElem?_getD,List.getElem?_eq_getElem hk]
   exact List.getElem_mem hk
  have:=RB this
  omega
 have hlen:=MR l (2 ^ n)
 generalize DJ l (2 ^ n) = L at ci hL hlen ⊢
 refine Ab Tryz.func55 fun s0=>?_
 rw [Tryz.ntmps55]
 refine Y1<|Wa<|Y0<|Y1<|Wa<|Y0<|Ac<|Y1<|Wm<|Wm ?_;refine Wq (Ak (ci)) ?_;refine Wq Dl ?_;refine Wm<|Y0<|AWp.block ?_
 refine AO (fun mz σ=>∃ k,k≤L.length∧mz = L.length - k∧σ = ⟨[(5,.d (ex (.int .i64 (HF (L.take k))))),(10,.d (Sd L)),(11,.d (ex (.int .i64 (L.length:Nat)))),(12,.d (ex (.int .i64 (k:Nat))))],[]⟩) ?le ⟨0,by omega,rfl,rfl⟩ ?round
 case le=>exact Aj (by exact Yd<|Yd<|Yd<|Yd<|FrLe.nil) (by exact HpLe.nil)
 case round =>
  rintro mz _ ⟨k,hk,rfl,rfl⟩
  by_cases hlt:k<L.length
  ·have hk:=hL k hlt
   apply Y1;refine Wq Am ?_;refine Y0<|Ac ?_;refine Ct ?_;refine Ys<|Ac<|AWp.block<|Y1 ?_;refine Wq BE ?_;refine Wq Ed ?_;refine Wa<|Y0<|AWp.region<|Wm<|Wm ?_;refine Wq (Ak (Ul (L.getD k default) hk)) ?_;refine Wq Ql ?_;refine Wa ?_;apply AWl.nil;apply Aq;refine Yn<|AWp.region ?_;refine Wq AM ?_;refine Wm ?_;apply AWl.nil
   refine ALoop.next (L.length - (k+1)) (by omega) ⟨k+1,by omega,rfl,rfl⟩ ?_
   exact Aj (by exact FrLe.cons rfl (AVle.int (by rw [Iz hlt,SO]))<|Yd<|Yd<|Yd<|FrLe.nil) (by exact HpLe.nil)
  ·obtain rfl : k = L.length := by omega
   apply Y1;refine Wq Ar ?_;refine Y0<|Ac ?_;refine Cf ?_;apply AK;apply AA;apply AB;apply AC;refine Yn<|Y1<|Wm<|Wa<|Y0 ?_;apply Aw
   rw [List.take_length]
   exact Yf
theorem Vh {s j:Nat} (hs:s<256) (hj:j<8):(255 - s).testBit j = !s.testBit j:=by
 have h:=Nat.testBit_two_pow_sub_succ (n:=8) (x:=s) (by omega) j
 rw [show 2 ^ 8 - (s+1) = 255 - s by omega] at h
 rw [h]
 simp [hj]
theorem Ov {a : Nat→Int} {s:Nat} (hs:s<256):Lj a s = true↔∀ j,j<8→0<a j→s.testBit j = true:=by
 unfold Lj
 rw [decide_eq_true_iff]
 constructor
 ·intro h j hj ha
  have h0:BM a 8 &&& (255 - s) = 0:=by omega
  have h1:(BM a 8 &&& (255 - s)).testBit j = false:=by rw [h0];exact Nat.zero_testBit j
  rw [Nat.testBit_and,FP a 8 j hj,decide_eq_true ha,Vh hs hj,Bool.true_and] at h1
  simpa using h1
 ·intro h
  have h0:BM a 8 &&& (255 - s) = 0:=by
   refine Nat.eq_of_testBit_eq fun j=>?_
   rw [Nat.zero_testBit,Nat.testBit_and]
   by_cases hj:j<8
   ·rw [FP a 8 j hj,Vh hs hj]
    by_cases ha:0<a j
    ·rw [h j hj ha];simp
    ·simp [ha]
   ·have : (BM a 8).testBit j = false := Nat.testBit_lt_two_pow (Nat.lt_of_lt_of_le (DK a 8) (Nat.pow_le_pow_right (by decide) (by omega)))
    rw [this]
    rfl
  rw [h0]
  rfl
theorem UK {l : Ae} {s:Nat} (hs:s<256):MS l s = true↔KT 8 0 l s.testBit:=by
 unfold MS KT
 rw [Bool.not_eq_true',← Bool.not_eq_true,List.any_eq_true]
 constructor
 ·intro h a ha
  have h1:¬ Lj a s = true:=fun hi=>h ⟨a,ha,hi⟩
  rw [Ov hs] at h1
  obtain ⟨j,h1⟩:=Classical.not_forall.1 h1
  obtain ⟨hj,h1⟩:=Classical.not_imp.1 h1
  obtain ⟨h2,h3⟩:=Classical.not_imp.1 h1
  exact ⟨j,Nat.zero_le j,by omega,by simpa using h3,h2⟩
 ·intro h ⟨a,ha,hi⟩
  obtain ⟨j,_,hj,h2,h3⟩:=h a ha
  rw [(Ov hs).1 hi j (by omega) h3] at h2
  cases h2
theorem Ue {n : Nat} (hn:n≤8):2 ^ n≤256:=Nat.pow_le_pow_right (n:=2) (by decide) hn
theorem UJ {l : Ae} {n s:Nat} (hn:n≤8) (hs:s<2 ^ n) (hl:∀ a∈l,SupN n a):MS l s = true↔KT n 0 l s.testBit:=by
 have h256:=Ue hn
 rw [UK (by omega)]
 constructor
 ·intro h a ha
  obtain ⟨j,h1,h2,h3,h4⟩:=h a ha
  refine ⟨j,h1,?_,h3,h4⟩
  rcases Nat.lt_or_ge j n with h5 | h5
  ·omega
  ·have := (hl a ha j (by omega)).2 h5
   omega
 ·intro h a ha
  obtain ⟨j,h1,h2,h3,h4⟩:=h a ha
  exact ⟨j,h1,by omega,h3,h4⟩
theorem QT {S : Nat→Bool}:∀ {k i:Nat},(∀ j,i≤j→j<i+k→S j = false)→IT k i S = 0
 | 0,_,_=>rfl
 | k+1,i,h=>by
  rw [IT,h i (Nat.le_refl i) (by omega),QT fun j h1 h2=>h j (by omega) (by omega)]
  rfl
theorem QV {S : Nat→Bool}:∀ {k i r:Nat},(∀ j,i+k≤j→j<i+k+r→S j = false)→IT (k+r) i S = IT k i S
 | 0,i,r,h=>by rw [Nat.zero_add];exact QT fun j h1 h2=>h j (by omega) (by omega)
 | k+1,i,r,h=>by
  rw [show k+1+r = (k+r)+1 by omega,IT,IT,QV fun j h1 h2=>h j (by omega) (by omega)]
theorem WV (s j:Nat):(if s.testBit j = true then 1 else 0) = s / 2 ^ j % 2:=by
 rw [Nat.testBit_eq_decide_div_mod_eq]
 by_cases h:s / 2 ^ j % 2 = 1
 ·simp [h]
 ·simp only [h,decide_false,Bool.false_eq_true,if_false]
  omega
theorem Wr (s : Nat):DW s = IT 8 0 s.testBit:=by
 simp only [IT,WV,DW,Nat.zero_add,Nat.pow_zero,Nat.div_one,Nat.add_zero,Nat.reduceAdd,Nat.reducePow]
 omega
theorem Uf {s n:Nat} (hn:n≤8) (hs:s<2 ^ n):DW s = IT n 0 s.testBit:=by
 rw [Wr]
 have h:=QV (k:=n) (i:=0) (r:=8 - n) (S:=s.testBit) fun j h1 _=>Nat.testBit_lt_two_pow (Nat.lt_of_lt_of_le hs (Nat.pow_le_pow_right (by decide) (by omega)))
 rwa [show n+(8 - n) = 8 by omega] at h
theorem RK (S : Nat→Bool):∀ n,∃ s,s<2 ^ n∧∀ j,j<n→s.testBit j = S j
 | 0=>⟨0,by decide,fun j hj=>absurd hj (Nat.not_lt_zero j)⟩
 | n+1=>by
  obtain ⟨s,h1,h2⟩:=RK S n
  have hp:2 ^ (n+1) = 2 ^ n+2 ^ n:=by rw [Nat.pow_succ];omega
  refine ⟨2 ^ n*(if S n = true then 1 else 0)+s,?_,fun j hj=>?_⟩
  ·split <;> omega
  ·rw [Nat.testBit_two_pow_mul_add _ h1]
   split
   ·exact h2 j (by assumption)
   ·obtain rfl : j = n := by omega
    rw [Nat.sub_self]
    cases S j <;> rfl
theorem WN {L : List Nat} {s:Nat} (h:s∈L):((DW s:Nat):Int)≤HF L:=by
 have key:∀ (L:List Nat) (d:Int),d≤L.foldl (fun d s=>max d ((DW s:Nat):Int)) d∧∀ s∈L,((DW s:Nat):Int)≤L.foldl (fun d s=>max d ((DW s:Nat):Int)) d:=by
  intro L
  induction L with
  | nil=>exact fun d=>⟨Int.le_refl d,fun s hs=>by cases hs⟩
  | cons b L ih =>
   intro d
   obtain ⟨h1,h2⟩:=ih (max d ((DW b:Nat):Int))
   rw [List.foldl_cons]
   refine ⟨by omega,fun s hs=>?_⟩
   rcases List.mem_cons.1 hs with rfl | hs
   ·omega
   ·exact h2 s hs
 exact (key L (-1)).2 s h
theorem WO (L : List Nat):HF L = -1∨∃ s∈L,HF L = ((DW s:Nat):Int):=by
 have key:∀ (L:List Nat) (d:Int),L.foldl (fun d s=>max d ((DW s:Nat):Int)) d = d∨∃ s∈L,L.foldl (fun d s=>max d ((DW s:Nat):Int)) d = ((DW s:Nat):Int):=by
  intro L
  induction L with
  | nil=>exact fun d=>.inl rfl
  | cons b L ih =>
   intro d
   rw [List.foldl_cons]
   rcases ih (max d ((DW b:Nat):Int)) with h | ⟨s,hs,h⟩
   ·rw [h]
    rcases Int.le_total d ((DW b:Nat):Int) with hle | hle
    ·exact .inr ⟨b,List.mem_cons_self,by omega⟩
    ·exact .inl (by omega)
   ·exact .inr ⟨s,List.mem_cons_of_mem _ hs,h⟩
 exact key L (-1)
theorem Ox {l : Ae} {m s:Nat}:s∈DJ l m↔s<m∧MS l s = true:=by
 unfold DJ
 rw [List.mem_filter,List.mem_range]
theorem MW {l : Ae} {n:Nat} (hn:n≤8) (hl:∀ a∈l,SupN n a):IsDim n 0 l (HF (DJ l (2 ^ n))):=by
 refine ⟨fun S hS=>?_,?_⟩
 ·obtain ⟨s,h1,h2⟩:=RK S n
  have hI:KT n 0 l s.testBit:=fun a ha=>by
   obtain ⟨j,g1,g2,g3,g4⟩:=hS a ha
   exact ⟨j,g1,g2,(h2 j (by omega)).trans g3,g4⟩
  rw [GM (S:=S) (S':=s.testBit) fun j _ hj=>(h2 j (by omega)).symm,← Uf hn h1]
  exact WN (Ox.2 ⟨h1,(UJ hn h1 hl).2 hI⟩)
 ·rcases WO (DJ l (2 ^ n)) with h | ⟨s,hs,h⟩
  ·exact .inl h
  ·obtain ⟨h1,h2⟩:=Ox.1 hs
   exact .inr ⟨s.testBit,(UJ hn h1 hl).1 h2,by rw [h,Uf hn h1]⟩
def FK (a : Nat→Int):Nat→Int:=fun j=>if j<8 then a j else 0
theorem MH {l : Ae} {n:Nat} {f:Nat→Int} (hn:n≤8) (hl:∀ a∈l,SupN n a) (hf:Num l f):∃ c,Ser (Cj n f) (HF (DJ l (2 ^ n))) c:=by
 have h8:∀ a∈l.map FK,∀ j,0≤a j:=fun a ha j=>by
  obtain ⟨b,hb,rfl⟩:=List.mem_map.1 ha
  show 0≤if j<8 then b j else 0
  split
  ·rename_i h
   exact (hl b hb j h).1
  ·omega
 have hS:∀ S,KT n 0 (l.map FK) S↔KT n 0 l S:=fun S=>⟨fun h a ha=>by
  obtain ⟨j,g1,g2,g3,g4⟩:=h _ (List.mem_map_of_mem ha)
  refine ⟨j,g1,g2,g3,?_⟩
  have g5:0<if j<8 then a j else 0:=g4
  rwa [if_pos (by omega)] at g5,fun h a ha=>by
  obtain ⟨b,hb,rfl⟩:=List.mem_map.1 ha
  obtain ⟨j,g1,g2,g3,g4⟩:=h b hb
  refine ⟨j,g1,g2,g3,?_⟩
  show 0<if j<8 then b j else 0
  rwa [if_pos (by omega)]⟩
 have hF:FR n 0 (l.map FK) = FR n 0 l:=by
  funext d
  refine Eu fun x _=>?_
  unfold PB
  rw [List.any_map]
  congr 2
  funext a
  refine bool_eq (Fl.trans (Iff.trans ⟨fun h j h1 h2=>?_,fun h j h1 h2=>?_⟩ Fl.symm))
  ·have:=h j h1 h2
   have h3:(if j<8 then a j else 0)≤x j:=this
   rwa [if_pos (by omega)] at h3
  ·show (if j<8 then a j else 0)≤x j
   rw [if_pos (by omega)]
   exact h j h1 h2
 obtain ⟨D,c,h1,h2⟩:=Rd n 0 (l.map FK) h8
 have h3:IsDim n 0 l D:=⟨fun S h=>h2.1 S ((hS S).2 h),h2.2.imp id fun ⟨S,g1,g2⟩=>⟨S,(hS S).1 g1,g2⟩⟩
 have h4:=h3.uniq (MW hn hl) h1.ge.1 (Jy _).1
 rw [hF,← ZU hn hl] at h1
 have h5:Cj n f = fun d=>hN n d l:=funext fun d=>hf n hn hl d
 rw [h5,← h4]
 exact ⟨c,h1⟩
def Yi (s t:Nat):Bool:=decide (((s &&& (255 - t):Nat):Int) = 0)
def Yx (l : Ae) (N:Nat):List Nat:=(DJ l N).filter fun s => !(DJ l N).any fun t=>(s != t) && Yi s t
def StdX (l : Ae) (n:Nat) (x:Nat→Int):Prop:=(∀ j,j<8→0≤x j∧(n≤j→x j = 0))∧inB l x = false
theorem Oz {l : Ae} {x y:Nat→Int} (h:Dv x y) (hx:inB l x = true):inB l y = true:=by
 obtain ⟨a,ha,hd⟩:=CN.1 hx
 exact CN.2 ⟨a,ha,fun j hj=>Int.le_trans (hd j hj) (h j hj)⟩
theorem StdX.congr {l : Ae} {n:Nat} {x y:Nat→Int} (h:StdX l n x) (e:Eqv x y):StdX l n y:=by
 refine ⟨fun j hj=>by rw [← e j hj];exact h.1 j hj,?_⟩
 rw [Bool.eq_false_iff]
 intro hy
 have:=Oz (show Dv y x from e.symm.dv) hy
 rw [h.2] at this
 cases this
abbrev Pz (m : Nat→Int) (i:Nat):Nat→Int:=Hq m i (m i+1)
theorem JH (m : Nat→Int) (i j:Nat):Pz m i j = if j = i then m i+1 else m j:=rfl
theorem XW (m : Nat→Int) (i:Nat):Dv m (Pz m i):=fun j _=>by
 rw [JH]
 split
 ·rename_i h;subst h;omega
 ·omega
def Clo (l : Ae) (n:Nat) (K:Ae) (x:Nat→Int):Prop:=∀ y,StdX l n y→Dv x y→MemE y K
theorem MemE.app {K tl:Ae} {y:Nat→Int} (h:MemE y K):MemE y (K ++ tl):=EQ.2 (.inl h)
theorem Clo.app {l : Ae} {n:Nat} {K tl:Ae} {x:Nat→Int} (h:Clo l n K x):Clo l n (K ++ tl) x:=fun y hy hd=>(h y hy hd).app
def PreD (l : Ae) (n:Nat) (K:Ae) (m:Nat→Int):Prop:=∀ x∈K,(Dv x m∧¬ Eqv x m)∨Clo l n K x
structure Dfs (l : Ae) (n:Nat) (K:Ae) (m:Nat→Int) (K':Ae):Prop where
 ext:∃ tl,K' = K ++ tl
 new:∀ x∈K',x∈K∨(StdX l n x∧Dv m x)
 all:Clo l n K' m
 pw:K'.Pairwise fun a b=>¬ Eqv a b
structure DfsI (l : Ae) (n:Nat) (K:Ae) (m:Nat→Int) (i:Nat) (K':Ae):Prop where
 ext:∃ tl,K' = K ++ m :: tl
 new:∀ x∈K',x∈K∨(StdX l n x∧Dv m x)
 clo:∀ x∈K',x∈K∨Eqv x m∨Clo l n K' x
 got:∀ t,t<i→Clo l n K' (Pz m t)
 pw:K'.Pairwise fun a b=>¬ Eqv a b
theorem VK {l : Ae} {n:Nat} {K:Ae} {m:Nat→Int} (h:inB l m = true) (hp:K.Pairwise fun a b=>¬ Eqv a b):Dfs l n K m K :=
 ⟨⟨[],(List.append_nil K).symm⟩,fun x hx=>.inl hx,fun y hy hd=>(by
  have:=Oz hd h
  rw [hy.2] at this
  exact Bool.noConfusion this),hp⟩
theorem VJ {l : Ae} {n:Nat} {K:Ae} {m:Nat→Int} (h:MemE m K) (hpre:PreD l n K m) (hp:K.Pairwise fun a b=>¬ Eqv a b):Dfs l n K m K:=by
 refine ⟨⟨[],(List.append_nil K).symm⟩,fun x hx=>.inl hx,fun y hy hd=>?_,hp⟩
 obtain ⟨x,hx,e⟩:=h
 rcases hpre x hx with ⟨_,hne⟩ | hc
 ·exact absurd e hne
 ·exact hc y hy (e.dv.trans hd)
theorem DfsI.start {l : Ae} {n:Nat} {K:Ae} {m:Nat→Int} (hm:StdX l n m) (hn:∀ x∈K,¬ Eqv m x) (hp:K.Pairwise fun a b=>¬ Eqv a b):DfsI l n K m 0 (K ++ [m]):=by
 refine ⟨⟨[],rfl⟩,fun x hx=>?_,fun x hx=>?_,fun t ht=>absurd ht (Nat.not_lt_zero t),?_⟩
 ·rcases List.mem_append.1 hx with h | h
  ·exact .inl h
  ·rw [List.mem_singleton.1 h]
   exact .inr ⟨hm,Dv.refl m⟩
 ·rcases List.mem_append.1 hx with h | h
  ·exact .inl h
  ·rw [List.mem_singleton.1 h]
   exact .inr (.inl (Eqv.refl m))
 ·rw [List.pairwise_append]
  refine ⟨hp,by simp,fun a ha b hb=>?_⟩
  rw [List.mem_singleton.1 hb]
  exact fun e=>hn a ha e.symm
theorem DfsI.pre {l : Ae} {n:Nat} {K K':Ae} {m:Nat→Int} {i:Nat} (h:DfsI l n K m i K') (hp:PreD l n K m) (hi:i<8):PreD l n K' (Pz m i):=fun x hx=>by
 have up:Dv x m→Dv x (Pz m i)∧¬ Eqv x (Pz m i):=fun hd=>⟨hd.trans (XW m i),fun e=>by
  have h1:=hd i hi
  have h2:=e i hi
  rw [JH,if_pos rfl] at h2
  omega⟩
 obtain ⟨tl,he⟩:=h.ext
 rcases h.clo x hx with h1 | h1 | h1
 ·rcases hp x h1 with h2 | h2
  ·exact .inl (up h2.1)
  ·refine .inr ?_
   rw [he]
   exact h2.app
 ·exact .inl (up h1.dv)
 ·exact .inr h1
theorem DfsI.step {l : Ae} {n:Nat} {K K1 K2:Ae} {m:Nat→Int} {i:Nat} (h:DfsI l n K m i K1) (h2:Dfs l n K1 (Pz m i) K2):DfsI l n K m (i+1) K2:=by
 obtain ⟨tl,e1⟩:=h.ext
 obtain ⟨tl2,e2⟩:=h2.ext
 refine ⟨⟨tl ++ tl2,by rw [e2,e1,List.append_assoc,List.cons_append]⟩,fun x hx=>?_,fun x hx=>?_,fun t ht=>?_,h2.pw⟩
 ·rcases h2.new x hx with h3 | ⟨h3,h4⟩
  ·exact h.new x h3
  ·exact .inr ⟨h3,(XW m i).trans h4⟩
 ·rcases h2.new x hx with h3 | ⟨h3,h4⟩
  ·rcases h.clo x h3 with h5 | h5 | h5
   ·exact .inl h5
   ·exact .inr (.inl h5)
   ·refine .inr (.inr ?_)
    rw [e2]
    exact h5.app
  ·exact .inr (.inr fun y hy hd=>h2.all y hy (h4.trans hd))
 ·by_cases e:t = i
  ·subst e
   exact h2.all
  ·rw [e2]
   exact (h.got t (by omega)).app
theorem DfsI.done {l : Ae} {n:Nat} {K K':Ae} {m:Nat→Int} (h:DfsI l n K m n K') (hn:n≤8) (hm:∀ j,j<8→0≤m j):Dfs l n K m K':=by
 obtain ⟨tl,e⟩:=h.ext
 refine ⟨⟨m :: tl,e⟩,h.new,fun y hy hd=>?_,h.pw⟩
 by_cases he:Eqv m y
 ·exact ⟨m,by rw [e];simp,he⟩
 ·obtain ⟨j,he⟩:=Classical.not_forall.1 he
  obtain ⟨hj,hne⟩:=Classical.not_imp.1 he
  have h1:=hd j hj
  have h2:=hm j hj
  have hjn:j<n:=by
   rcases Nat.lt_or_ge j n with h3 | h3
   ·exact h3
   ·have:=(hy.1 j hj).2 h3
    omega
  refine h.got j hjn y hy fun t ht=>?_
  rw [JH]
  split
  ·rename_i h3
   subst h3
   omega
  ·exact hd t ht
theorem YE (m : Nat→Int) (i:Nat) (hm:∀ j,j<8→0≤m j) (hi:i<8):Cs 8 0 (Pz m i) = Cs 8 0 m+1:=by
 have key:∀ (k a:Nat),a+k≤8→Cs k a (Pz m i) = Cs k a m+if a≤i∧i<a+k then 1 else 0:=by
  intro k
  induction k with
  | zero=>intro a _;rw [if_neg (by omega)];rfl
  | succ k ih =>
   intro a ha
   rw [Cs,Cs,ih (a+1) (by omega),JH]
   have h0:=hm a (by omega)
   by_cases e:a = i
   ·subst e
    rw [if_pos rfl,if_neg (by omega),if_pos (by omega)]
    omega
   ·rw [if_neg e]
    by_cases h1:a≤i∧i<a+(k+1)
    ·rw [if_pos h1, if_pos (by omega)]
     omega
    ·rw [if_neg h1, if_neg (by omega)]
     rfl
 rw [key 8 0 (by omega),if_pos (by omega)]
theorem Dfs.top {l : Ae} {n:Nat} {K:Ae} (h:Dfs l n [] (fun _=>0) K):(∀ x,MemE x K↔StdX l n x)∧K.Pairwise fun a b=>¬ Eqv a b:=by
 refine ⟨fun x=>⟨fun ⟨a,ha,e⟩=>?_,fun hx=>h.all x hx fun j hj=>(hx.1 j hj).1⟩,h.pw⟩
 rcases h.new a ha with h1 | ⟨h1,_⟩
 ·cases h1
 ·exact h1.congr e
theorem PreD.top (l : Ae) (n:Nat) (m:Nat→Int):PreD l n [] m:=fun x hx=>by cases hx
theorem PF {S K:Ae} (hp:S.Perm K) (hs:S.Pairwise fun a b=>lx a b≤0) (hK:K.Pairwise fun a b=>¬ Eqv a b):(S.Pairwise fun a b=>lx a b<0)∧∀ x,MemE x S↔MemE x K:=by
 have hS:S.Pairwise fun a b=>¬ Eqv a b:=(hp.pairwise_iff fun {a b} h e=>h e.symm).2 hK
 refine ⟨?_,fun x=>⟨fun ⟨a,ha,e⟩=>⟨a,hp.mem_iff.1 ha,e⟩,fun ⟨a,ha,e⟩=>⟨a,hp.mem_iff.2 ha,e⟩⟩⟩
 refine (hs.and hS).imp fun {a b} h=>?_
 have hne:lx a b ≠ 0:=fun h0=>h.2 (FX.1 h0)
 omega
theorem Jz {m m':Nat→Int}:∀ {k i:Nat},(∀ j,i≤j→j<i+k→m j = m' j)→Cs k i m = Cs k i m'
 | 0,_,_=>rfl
 | k+1,i,h=>by rw [Cs,Cs,h i (Nat.le_refl i) (by omega),Jz fun j h1 h2=>h j (by omega) (by omega)]
theorem FT : ∀ {k i d:Nat} {m:Nat→Int},m∈rM k i d↔InV k i m∧Cs k i m = d
 | 0,i,d,m=>by
  unfold rM
  constructor
  ·intro h
   split at h
   ·rename_i hd
    rw [List.mem_singleton.1 h]
    exact ⟨⟨fun _=>Int.le_refl 0,fun _ _=>rfl⟩,hd.symm⟩
   ·cases h
  ·intro ⟨h1,h2⟩
   have h3:0 = d:=h2
   rw [if_pos h3.symm,List.mem_singleton]
   funext j
   exact h1.2 j (by omega)
 | k+1,i,d,m=>by
  rw [rM,List.mem_flatMap]
  constructor
  ·intro ⟨e,he,h⟩
   have he:=List.mem_range.1 he
   obtain ⟨m',hm',rfl⟩:=List.mem_map.1 h
   obtain ⟨h1,h2⟩:=FT.1 hm'
   refine ⟨⟨fun j=>?_,fun j hj=>?_⟩,?_⟩
   ·show 0≤if j = i then _ else _
    split
    ·omega
    ·exact h1.1 j
   ·show (if j = i then _ else _) = _
    rw [if_neg (by omega)]
    exact h1.2 j (by omega)
   ·rw [Cs, Jz (m' := m') fun j h3 _ => if_neg (by omega), h2]
    show (if i = i then (((d - e:Nat):Nat):Int) else m' i).toNat+e = d
    rw [if_pos rfl]
    omega
  ·intro ⟨h1,h2⟩
   rw [Cs] at h2
   refine ⟨Cs k (i+1) m,List.mem_range.2 (by omega),List.mem_map.2 ⟨fun j=>if j = i then 0 else m j,FT.2 ⟨⟨fun j=>?_,fun j hj=>?_⟩,?_⟩,?_⟩⟩
   ·show 0≤if j = i then _ else _
    split
    ·omega
    ·exact h1.1 j
   ·show (if j = i then _ else _) = _
    split
    ·rfl
    ·exact h1.2 j (by omega)
   ·exact Jz fun j h3 _=>if_neg (by omega)
   ·funext j
    show (if j = i then (((d - Cs k (i+1) m:Nat):Nat):Int) else if j = i then 0 else m j) = m j
    split
    ·rename_i e
     subst e
     have:=h1.1 j
     omega
    ·rfl
theorem NQ : ∀ (k i d:Nat),(rM k i d).Nodup
 | 0,i,d=>by
  unfold rM
  split
  ·simp
  ·exact List.nodup_nil
 | k+1,i,d=>by
  rw [rM]
  unfold List.Nodup
  rw [List.pairwise_flatMap]
  refine ⟨fun e he=>?_,(List.pairwise_lt_range (n:=d+1)).imp_of_mem ?_⟩
  ·have ih:=NQ k (i+1) e
   rw [List.pairwise_map]
   refine List.Pairwise.imp_of_mem ?_ ih
   intro a b ha hb hab h
   refine hab ?_
   obtain ⟨h1,_⟩:=FT.1 ha
   obtain ⟨h2,_⟩:=FT.1 hb
   funext j
   by_cases hj:j = i
   ·rw [hj,h1.2 i (by omega),h2.2 i (by omega)]
   ·have:=congrFun h j
    simp only [if_neg hj] at this
    exact this
  ·intro e e' he he' hlt x hx y hy h
   obtain ⟨a,_,rfl⟩:=List.mem_map.1 hx
   obtain ⟨b,_,rfl⟩:=List.mem_map.1 hy
   have he:=List.mem_range.1 he
   have he':=List.mem_range.1 he'
   have:=congrFun h i
   simp only [if_pos] at this
   omega
theorem MO (l : Ae):∀ L:Ae,Pu (Gj l) L = ((L.filter fun m => !inB l m).length:Int)
 | []=>rfl
 | m :: L=>by
  rw [Pu,MO l L,List.filter_cons]
  unfold Gj
  cases inB l m with
  | true=>simp
  | false=>simp;omega
theorem Io (a : Nat→Int):Eqv (FK a) a:=fun j hj=>if_pos hj
def Lf (l : Ae) (n B:Nat):Ae:=((List.range B).flatMap fun d=>rM n 0 d).filter fun m => !inB l m
theorem NB (l : Ae) (n:Nat):∀ B,((Lf l n B).length:Int) = By B fun d=>hN n d l
 | 0=>rfl
 | B+1=>by
  rw [By,← NB l n B,← OA,MO,Lf,List.range_succ,List.flatMap_append,List.filter_append,List.length_append]
  simp [Lf]
theorem JR (l : Ae) (n B:Nat):(Lf l n B).Nodup:=by
 refine List.Pairwise.filter _ ?_
 rw [List.pairwise_flatMap]
 refine ⟨fun d _=>NQ n 0 d,(List.pairwise_lt_range (n:=B)).imp_of_mem ?_⟩
 intro d d' _ _ hlt x hx y hy h
 have h1:=(FT.1 hx).2
 have h2:=(FT.1 hy).2
 rw [h] at h1
 omega
theorem Gs {l : Ae} {n B:Nat} {m:Nat→Int}:m∈Lf l n B↔InV n 0 m∧Cs n 0 m<B∧inB l m = false:=by
 unfold Lf
 rw [List.mem_filter,List.mem_flatMap]
 constructor
 ·intro ⟨⟨d,hd,hm⟩,h⟩
  obtain ⟨h1,h2⟩:=FT.1 hm
  exact ⟨h1,by rw [h2];exact List.mem_range.1 hd,by simpa using h⟩
 ·intro ⟨h1,h2,h3⟩
  exact ⟨⟨_,List.mem_range.2 h2,FT.2 ⟨h1,rfl⟩⟩,by simp [h3]⟩
theorem Sh {l K:Ae} {n B:Nat} (hn:n≤8) (hK:∀ x,MemE x K↔StdX l n x) (hp:K.Pairwise fun a b=>¬ Eqv a b) (hB:∀ x,StdX l n x→Cs n 0 x<B):((K.length:Nat):Int) = By B fun d=>hN n d l:=by
 rw [← NB]
 have hnd:(K.map FK).Nodup:=by
  unfold List.Nodup
  rw [List.pairwise_map]
  refine hp.imp ?_
  intro a b h e
  refine h fun j hj=>?_
  have:=congrFun e j
  unfold FK at this
  rwa [if_pos hj,if_pos hj] at this
 have hperm:(K.map FK).Perm (Lf l n B):=(List.perm_ext_iff_of_nodup hnd (JR l n B)).2 fun m=>by
  rw [Gs]
  constructor
  ·intro h
   obtain ⟨a,ha,rfl⟩:=List.mem_map.1 h
   have h1:StdX l n (FK a):=((hK a).1 ⟨a,ha,Eqv.refl a⟩).congr (Io a).symm
   refine ⟨⟨fun j=>?_,fun j hj=>?_⟩,hB _ h1,h1.2⟩
   ·by_cases h8:j<8
    ·exact (h1.1 j h8).1
    ·unfold FK
     rw [if_neg h8]
     omega
   ·by_cases h8:j<8
    ·exact (h1.1 j h8).2 (by omega)
    ·unfold FK
     rw [if_neg h8]
  ·intro ⟨h1,h2,h3⟩
   have h4:StdX l n m:=⟨fun j hj=>⟨h1.1 j,fun h=>h1.2 j (by omega)⟩,h3⟩
   obtain ⟨a,ha,e⟩:=(hK m).2 h4
   refine List.mem_map.2 ⟨a,ha,funext fun j=>?_⟩
   unfold FK
   split
   ·rename_i h8
    exact e j h8
   ·exact (h1.2 j (by omega)).symm
 rw [← hperm.length_eq,List.length_map]
def code (B : Nat):Nat→Nat→(Nat→Int)→Nat
 | 0,_,_=>0
 | k+1,i,x=>(x i).toNat+(B+1)*code B k (i+1) x
theorem RJ {B : Nat} {x:Nat→Int}:∀ {k i:Nat},(∀ j,i≤j→j<i+k→0≤x j∧x j≤B)→code B k i x<(B+1) ^ k
 | 0,_,_=>by rw [Nat.pow_zero];exact Nat.one_pos
 | k+1,i,h=>by
  have h1:=h i (Nat.le_refl i) (by omega)
  have h2:=RJ (B:=B) (x:=x) (k:=k) (i:=i+1) fun j a b=>h j (by omega) (by omega)
  rw [code,Nat.pow_succ]
  have h3:(B+1)*(code B k (i+1) x+1)≤(B+1)*(B+1) ^ k:=Nat.mul_le_mul_left _ h2
  rw [Nat.mul_add,Nat.mul_one] at h3
  rw [Nat.mul_comm ((B+1) ^ k)]
  omega
theorem OR {B : Nat} {x y:Nat→Int}:∀ {k i:Nat},(∀ j,i≤j→j<i+k→0≤x j∧x j≤B)→(∀ j,i≤j→j<i+k→0≤y j∧y j≤B)→code B k i x = code B k i y→∀ j,i≤j→j<i+k→x j = y j
 | 0,_,_,_,_,j,h1,h2=>by omega
 | k+1,i,hx,hy,h,j,h1,h2=>by
  have gx:=hx i (Nat.le_refl i) (by omega)
  have gy:=hy i (Nat.le_refl i) (by omega)
  rw [code,code] at h
  have hm:((x i).toNat+(B+1)*code B k (i+1) x) % (B+1) = ((y i).toNat+(B+1)*code B k (i+1) y) % (B+1):=by rw [h]
  rw [Nat.add_mul_mod_self_left,Nat.add_mul_mod_self_left,Nat.mod_eq_of_lt (by omega),Nat.mod_eq_of_lt (by omega)] at hm
  rw [hm] at h
  have h3:(B+1)*code B k (i+1) x = (B+1)*code B k (i+1) y:=by omega
  have h4:=Nat.eq_of_mul_eq_mul_left (by omega) h3
  by_cases e:j = i
  ·subst e
   omega
  ·exact OR (fun j a b=>hx j (by omega) (by omega)) (fun j a b=>hy j (by omega) (by omega)) h4 j (by omega) (by omega)
theorem Kf : ∀ (n:Nat) (I:List Nat),I.Nodup→(∀ i∈I,i<n)→I.length≤n
 | 0,[],_,_=>Nat.le_refl _
 | 0,i :: I,_,h=>absurd (h i (by simp)) (Nat.not_lt_zero _)
 | n+1,I,hn,h=>by
  by_cases hm:n∈I
  ·have h1:=Kf n (I.erase n) (hn.erase n) fun i hi=>by
    have h2:=(hn.mem_erase_iff).1 hi
    have h3:=h i h2.2
    have:=h2.1
    omega
   rw [List.length_erase_of_mem hm] at h1
   omega
  ·have:=Kf n I hn fun i hi=>by
    have h3:=h i hi
    have:i ≠ n:=fun e=>hm (by rw [← e];exact hi)
    omega
   omega
theorem Ra {l K:Ae} {n B:Nat} (hn:n≤8) (hK:∀ x∈K,StdX l n x) (hp:K.Pairwise fun a b=>¬ Eqv a b) (hB:∀ x,StdX l n x→∀ j,j<8→x j≤B):K.length≤(B+1) ^ n:=by
 have hx:∀ x∈K,∀ j,0≤j→j<0+n→0≤x j∧x j≤B:=fun x hx j _ hj=>⟨((hK x hx).1 j (by omega)).1,hB x (hK x hx) j (by omega)⟩
 have hnd:(K.map (code B n 0)).Nodup:=by
  unfold List.Nodup
  rw [List.pairwise_map]
  refine List.Pairwise.imp_of_mem ?_ hp
  intro a b ha hb h e
  refine h fun j hj=>?_
  by_cases hjn:j<n
  ·exact OR (hx a ha) (hx b hb) e j (Nat.zero_le j) (by omega)
  ·rw [((hK a ha).1 j hj).2 (by omega),((hK b hb).1 j hj).2 (by omega)]
 have:=Kf ((B+1) ^ n) _ hnd fun i hi=>by
  obtain ⟨x,h1,rfl⟩:=List.mem_map.1 hi
  exact RJ (hx x h1)
 rwa [List.length_map] at this
theorem Lu {f g:Nat→Int}:∀ {n:Nat},(∀ t,t<n→f t = g t)→HM f n = HM g n
 | 0,_=>rfl
 | n+1,h=>by
  rw [HM,HM,h n (by omega),Lu fun t ht=>h t (by omega)]
def cS (N : Nat) (f:Nat→Int):Nat→Nat × (Nat→Int)
 | 0=>(N,f)
 | j+1=>(HM (kS (cS N f j).2 ((cS N f j).1 - 1)) (cS N f j).1,kS (cS N f j).2 ((cS N f j).1 - 1))
theorem YB {f g:Nat→Int} {m i t:Nat} (h:∀ t,t<m→f t = g t) (hi:i<m) (ht:t≤i):kS f i t = pS g t:=by
 rw [kS,if_pos ht]
 exact BN fun k hk=>h k (by omega)
theorem Vb (N : Nat) (f:Nat→Int):∀ j,(cS N f j).1 = (cN N f j).1∧∀ t,t<(cN N f j).1→(cS N f j).2 t = Cj j f t
 | 0=>⟨rfl,fun _ _=>rfl⟩
 | j+1=>by
  obtain ⟨h1,h2⟩:=Vb N f j
  have h3:=Qa N f j
  have h4:∀ t,t<(cN N f j).1→kS (cS N f j).2 ((cN N f j).1 - 1) t = pS (Cj j f) t:=fun t ht=>YB h2 (by omega) (by omega)
  have h5:(cN N f (j+1)).1 = HM (pS (Cj j f)) (cN N f j).1:=by
   show HM (pS (cN N f j).2) _ = _
   rw [h3]
  have h6:(cS N f (j+1)).1 = (cN N f (j+1)).1:=by
   rw [h5]
   show HM (kS (cS N f j).2 ((cS N f j).1 - 1)) (cS N f j).1 = _
   rw [h1]
   exact Lu h4
  refine ⟨h6,fun t ht=>?_⟩
  show kS (cS N f j).2 ((cS N f j).1 - 1) t = _
  rw [h1]
  rw [h5] at ht
  exact h4 t (Nat.lt_of_lt_of_le ht (JL _ _))
theorem Va (N : Nat) (f:Nat→Int) (j:Nat):(cS N f j).1≤N:=by
 rw [(Vb N f j).1]
 exact Vd N f j
theorem Vc {N Dg:Nat} {f:Nat→Int} {B:Int} (h:Bnd f Dg B):∀ j,Bnd (cS N f j).2 Dg (B*((Dg:Int)+1) ^ j)
 | 0=>by rw [Int.pow_zero,Int.mul_one];exact h
 | j+1=>by
  have:=(Vc (N:=N) h j).kS ((cS N f j).1 - 1)
  rw [Int.pow_succ,← Int.mul_assoc]
  exact this
theorem Uq {f f':Nat→Int} {n:Nat} (h:∀ i,i<n→f i = f' i):nD n f = nD n f':=by
 unfold nD
 rw [List.map_congr_left fun i hi=>by rw [h i (List.mem_range.1 hi)]]
theorem LI {B : Int} {Dg r j:Nat} (hB0:0≤B) (hB:B*((Dg:Int)+1) ^ r≤9223372036854775807) (hj:j≤r):B*((Dg:Int)+1) ^ j≤9223372036854775807:=by
 refine Int.le_trans (Int.mul_le_mul_of_nonneg_left ?_ hB0) hB
 have:(Dg+1) ^ j≤(Dg+1) ^ r:=Nat.pow_le_pow_right (by omega) hj
 exact_mod_cast this
theorem ST (l : Ae) (n N:Nat) (f:Nat→Int) (hn:n≤1000) (cn:Abs Tryz.prog 47 [BT l] (nD N f)):Abs Tryz.prog 58 [BT l,ex (.int .i64 (n:Nat)),ex (.int .i64 (n:Nat))] (nD N f):=by
 refine Ab Tryz.func58 fun s0=>?_
 rw [Tryz.ntmps58]
 refine Y1<|Wa<|Y0<|Y1<|Wm ?_;refine Wq (Ak (cn)) ?_;refine Wa<|Y0<|Ac<|Y1<|Wm<|Wm ?_;refine Wq Fv ?_;refine Wm<|Y0<|AWp.block ?_
 refine AO (fun mz σ=>∃ k,k≤0∧mz = 0 - k∧σ = ⟨[(7,.d (nD N f)),(13,.d (ex (.int .i64 ((0:Nat):Int)))),(14,.d (ex (.int .i64 (k:Nat))))],[]⟩) ?le ⟨0,by omega,rfl,rfl⟩ ?round
 case le=>exact Aj (by exact Yd<|FrLe.cons rfl (AVle.int (by omega))<|Yd<|FrLe.nil) (by exact HpLe.nil)
 case round =>
  rintro mz _ ⟨k,hk,rfl,rfl⟩
  by_cases hlt:k<0
  ·omega
  ·obtain rfl : k = 0 := by omega
   apply Y1;refine Wq Ar ?_;refine Y0<|Ac ?_;refine Cf ?_;apply AK;apply AA;apply AB;apply AC;refine Yn<|Y1<|Wm<|Wa<|Y0 ?_;apply Aw
   exact Yf
theorem UZ (l : Ae) (n d r N Dg:Nat) (f:Nat→Int) (B:Int) (hnd:n = d+r) (hn:n≤1000) (hNDg:N≤Dg+1) (hD:Dg≤100000) (hb:Bnd f Dg B) (hB:B*((Dg:Int)+1) ^ r≤9223372036854775807) (cn:Zh l N f):Abs Tryz.prog 58 [BT l,ex (.int .i64 (n:Nat)),ex (.int .i64 (d:Nat))] (nD (cN N f r).1 (Cj r f)):=by
 have hadd:∀ j,j<r→∀ i,i+1<(cS N f j).1→-9223372036854775808≤kS (cS N f j).2 i (i+1)+kS (cS N f j).2 i i∧kS (cS N f j).2 i (i+1)+kS (cS N f j).2 i i≤9223372036854775807:=fun j hj i hi=>by
  have h0:=Va N f j
  have h1:=(Vc (N:=N) hb j).sum (i+1) (by omega)
  have h2:=LI hb.pos hB (j:=j+1) (by omega)
  rw [Int.pow_succ,← Int.mul_assoc] at h2
  rw [GO] at h1
  rw [MQ,RA]
  omega
 refine Ab Tryz.func58 fun s0=>?_
 rw [Tryz.ntmps58]
 refine Y1<|Wa<|Y0<|Y1<|Wm ?_
 refine Bc [] [] (cn) (.inl rfl) rfl rfl (.inl ⟨rfl,rfl⟩) (by repeat (first | exact ArgsC.nil | refine ArgsC.d rfl (D.le.refl _) ?_ | refine AT rfl rfl ?_)) (by decide) SelR.nil trivial rfl ?_
 rintro _ _ ⟨g,c,N0,hg1,hg2,hg4,hg3,rfl,rfl⟩
 refine ⟨_,_,_,(by first | exact AVRen.d | exact AVRen.own rfl | exact AVRen.ptr rfl | exact AVRen.fn rfl),(by repeat (first | exact SetR.nil | (apply SetR.cons;(first | exact OwRen.dead | exact Ah | exact OwRen.obj | exact Ao | exact Ai rfl);exact rfl))),(by repeat (first | exact AppR.nil | (apply AppR.cons;(first | exact OwRen.dead | exact Ah | exact OwRen.obj | exact Ao | exact Ai rfl);exact rfl))),?_⟩
 try simp only [AU,Bg]
 refine Wa<|Y0<|Ac<|Y1<|Wm<|Wm ?_;refine Wq Fv ?_;refine Wm<|Y0<|AWp.block ?_
 refine AO (fun mz σ=>∃ k,k≤r∧mz = r - k∧σ = ⟨[(7,.d (sX g (cS N f k).1 c)),(13,.d (ex (.int .i64 (r:Nat)))),(14,.d (ex (.int .i64 (k:Nat))))],[.dead,.dead,.dead,.dead,.dead,.dead,.dead,.obj (BA [⟨g,3,nC (cS N f k).2 N0⟩] [c*1])]⟩) ?le ⟨0,by omega,rfl,rfl⟩ ?round
 case le=>exact Aj (by exact Yd<|FrLe.cons rfl (AVle.int (by omega))<|Yd<|FrLe.nil) (by exact HpLe.cons (OwLe.dead)<|HpLe.cons (OwLe.dead)<|HpLe.cons (OwLe.dead)<|HpLe.cons (OwLe.dead)<|HpLe.cons (OwLe.dead)<|HpLe.cons (OwLe.dead)<|HpLe.cons (OwLe.dead)<|HpLe.cons (OwLe.obj rfl)<|HpLe.nil)
 case round =>
  rintro mz _ ⟨k,hk,rfl,rfl⟩
  by_cases hlt:k<r
  ·have hle:=Va N f k
   apply Y1;refine Wq Am ?_;refine Y0<|Ac ?_;refine Ct ?_;refine Ys<|Ac<|AWp.block<|Ac<|Y1<|Wa<|Y0<|AWp.block ?_
   refine AO (fun mz σ=>∃ i,i≤(cS N f k).1 - 1∧mz = (cS N f k).1 - 1 - i∧σ = ⟨[(7,.d (sX g (cS N f k).1 c)),(13,.d (ex (.int .i64 (r:Nat)))),(14,.d (ex (.int .i64 (k:Nat)))),(8,.d (ex (.int .i64 ((i+1:Nat):Int))))],[.dead,.dead,.dead,.dead,.dead,.dead,.dead,.obj (BA [⟨g,3,nC (kS (cS N f k).2 i) N0⟩] [c*1])]⟩) ?lei ⟨0,by omega,rfl,rfl⟩ ?roundi
   case lei=>exact Aj (by exact Yd<|Yd<|Yd<|Yd<|FrLe.nil) (by exact HpLe.cons (OwLe.dead)<|HpLe.cons (OwLe.dead)<|HpLe.cons (OwLe.dead)<|HpLe.cons (OwLe.dead)<|HpLe.cons (OwLe.dead)<|HpLe.cons (OwLe.dead)<|HpLe.cons (OwLe.dead)<|HpLe.cons (OwLe.obj (by rw [Ry]))<|HpLe.nil)
   case roundi =>
    rintro mz _ ⟨i,hi,rfl,rfl⟩
    by_cases hlti:i<(cS N f k).1 - 1
    ·have ha := hadd k hlt i (by omega)
     have hst:SetAt (nC (kS (cS N f k).2 i) N0) ((i+1)*1) [ex (.int .i64 (kS (cS N f k).2 i (i+1)+kS (cS N f k).2 i i))] (nC (kS (cS N f k).2 (i+1)) N0):=Rz (cS N f k).2 i ▸ PO (by omega)
     refine Ac<|Y1<|Wm<|Wm ?_;refine Wq (Do (ao rfl) (Aa rfl)) ?_;refine Wq Am ?_;apply Y0;refine Ct ?_;refine Ys<|Ac<|AWp.block ?_
     refine Dr [[],[],[(22,0),(23,1)],[(24,2)],[],[],[(27,5)],[(26,4),(28,6)],[(29,7)],[(25,3),(30,8)],[(22,0),(23,1)]] [[],[],[0,1],[0,1,2],[],[],[5],[4,5,6],[4,5,6,7],[0,1,2,3,4,5,6,7,8],[0,1,2,3,4,5,6,7,8,9]] ?_
     refine Xq Af ?_;refine Xq Af ?_;refine Xq (CA (k:=i+1) (ah rfl) (ah rfl) (Aa rfl) (Aa rfl) (by omega)) ?_;refine Xq (It (e:=⟨g,3,nC (kS (cS N f k).2 i) N0⟩) 7 0 (ah rfl) rfl rfl (Aa rfl) rfl (Fk (by omega))) ?_;refine Xq Af ?_;refine Xq Af ?_;refine Xq Er ?_;refine Xq (CA (k:=i) (ah rfl) (ah rfl) (Aa rfl) (Aa rfl) (by omega)) ?_;refine Xq (It (e:=⟨g,3,nC (kS (cS N f k).2 i) N0⟩) 7 0 (ah rfl) rfl rfl (Aa rfl) rfl (Fk (by omega))) ?_;refine Xq EX ?_;refine Xq (CA (k:=i+1) (ah rfl) (ah rfl) (Aa rfl) (Aa rfl) (by omega)) ?_;refine ⟨_,rfl,?_⟩
     refine Pr (e:=⟨g,3,nC (kS (cS N f k).2 i) N0⟩) 7 0 (ao rfl) (ao rfl) rfl rfl (Aa rfl) (CH rfl) hst rfl ?_;apply AWl.nil;apply Aq;refine Yn<|AWp.region<|Wm ?_;refine Wq AM ?_;refine Wa ?_;apply AWl.nil
     refine ALoop.next ((cS N f k).1 - 1 - (i+1)) (by omega) ⟨i+1,by omega,rfl,rfl⟩ ?_
     exact Aj (by exact Yd<|Yd<|Yd<|Yd<|FrLe.nil) (by exact HpLe.cons (OwLe.dead)<|HpLe.cons (OwLe.dead)<|HpLe.cons (OwLe.dead)<|HpLe.cons (OwLe.dead)<|HpLe.cons (OwLe.dead)<|HpLe.cons (OwLe.dead)<|HpLe.cons (OwLe.dead)<|HpLe.cons (OwLe.obj rfl)<|HpLe.nil)
    ·refine Ac<|Y1<|Wm<|Wm ?_;refine Wq (Do (ao rfl) (Aa rfl)) ?_;refine Wq Ar ?_;apply Y0;refine Cf ?_;apply AK;apply AA;apply AB;apply AC;refine Yn<|AWp.region<|Wm ?_
     obtain rfl:i = (cS N f k).1 - 1:=by omega
     refine Bc [7] [] (Nx (kS (cS N f k).2 ((cS N f k).1 - 1)) (cS N f k).1 N0 g c [c*1] (by omega) (by omega) (by omega)) (by first | exact Or.inl rfl | exact Or.inr ⟨by decide,rfl,by repeat (first | exact AvoidR.nil | refine AF rfl ?_ | refine AvoidR.dead ?_ | refine AJ ?_ | refine AvoidR.obj ?_ | refine AD ?_ | refine AE rfl ?_ | refine AvoidR.pin rfl ?_)⟩) rfl rfl (by first | exact .inl ⟨rfl,rfl⟩ | exact .inr ⟨rfl,rfl⟩) (by repeat (first | exact ArgsC.nil | refine ArgsC.d rfl (D.le.refl _) ?_ | refine AT rfl rfl ?_)) (by decide) (by repeat (first | exact SelR.nil | refine SelR.var rfl ?_ | refine SelR.obj rfl ?_ | refine AZ rfl ?_ | refine AR rfl rfl rfl ?_)) (by repeat (first | exact trivial | refine ⟨⟨_,_,rfl⟩,?_⟩)) rfl ?_
     rintro _ _ ⟨rfl,rfl⟩
     refine ⟨_,_,_,(by first | exact AVRen.d | exact AVRen.own rfl | exact AVRen.ptr rfl | exact AVRen.fn rfl),(by repeat (first | exact SetR.nil | (apply SetR.cons;(first | exact OwRen.dead | exact Ah | exact OwRen.obj | exact Ao | exact Ai rfl);exact rfl))),(by repeat (first | exact AppR.nil | (apply AppR.cons;(first | exact OwRen.dead | exact Ah | exact OwRen.obj | exact Ao | exact Ai rfl);exact rfl))),?_⟩
     try simp only [AU,Bg]
     refine Wa ?_;apply AWl.nil;apply Aq;refine Yn<|AWp.region ?_;refine Wq AM ?_;refine Wm ?_;apply AWl.nil
     refine ALoop.next (r - (k+1)) (by omega) ⟨k+1,by omega,rfl,rfl⟩ ?_
     exact Aj (by exact Yd<|Yd<|Yd<|FrLe.nil) (by exact HpLe.cons (OwLe.dead)<|HpLe.cons (OwLe.dead)<|HpLe.cons (OwLe.dead)<|HpLe.cons (OwLe.dead)<|HpLe.cons (OwLe.dead)<|HpLe.cons (OwLe.dead)<|HpLe.cons (OwLe.dead)<|HpLe.cons (OwLe.obj rfl)<|HpLe.nil)
  ·obtain rfl : k = r := by omega
   have h7:=Vb N f k
   have hle:=Va N f k
   refine QE (σ':=⟨[(7,.d (nD (cN N f k).1 (Cj k f))),(13,.d (ex (.int .i64 (k:Nat)))),(14,.d (ex (.int .i64 (k:Nat))))],[]⟩) (FM (KZ 7 rfl rfl) (FM (EY (R:=nD (cN N f k).1 (Cj k f)) 7 7 rfl rfl rfl rfl fun s' hs v hv=>?_) ?_)) ?_
   ·rw [← Uq (f:=(cS N f k).2) h7.2,← h7.1]
    exact XT (hs _ List.mem_cons_self) (by omega) (by omega) hg3 hv
   ·exact Aj (by exact Yd<|Yd<|Yd<|FrLe.nil) (by exact HpLe.nil)
   apply Y1;refine Wq Ar ?_;refine Y0<|Ac ?_;refine Cf ?_;apply AK;apply AA;apply AB;apply AC;refine Yn<|Y1<|Wm<|Wa<|Y0 ?_;apply Aw
   exact Yf
section
variable {P : Program} {s0:An} {n:Nat} {ops:Array Oper} {Q:Exit→AS→Prop} {rest:List Oper} {fr:List (Nat × AV)} {hp hp':List Ow} {ty:TypeId} {ps:String} {af:Array Edge}
theorem RX {T : TypeId} {x:Operand} {d:D} {k t:Nat} (hx:AS.arg ⟨fr,hp⟩ x = .d d) (h1:One hp (.d d)) (hT:Nat.beq T 136 = false) (hd:Nat.blt t n = true) (hk:ER hp = some k) (hs:CQ hp (.var T ([d].map .d)) = some hp') (h:AWl P s0 n ops Q rest ⟨(t,.ptr k 0) :: fr,hp'⟩):AWl P s0 n ops Q (⟨some t,.box T x,ty,ps,af,none⟩ :: rest) ⟨fr,hp⟩:=by
 have hT':T ≠ 136:=Nat.ne_of_beq_eq_false hT
 rw [Cp hs] at h
 have hk':=Di hk
 subst hk'
 refine AWl.step rfl fun s ρ a hst K hK=>?_
 have hv:d.rel s (a.eval x):=by
  have:=hst.arg x
  rw [hx] at this
  exact this
 have h1v:(a.eval x).oneCell' = true:=h1 0 ρ s _ hst.hp hv
 obtain ⟨u,e1⟩:∃ u,a.eval x = u:=⟨_,rfl⟩
 rw [e1] at hv h1v
 have hcs:u.cells = #[u]:=by cases u <;> first | rfl | cases h1v
 have hrun:(execOp a.eval ⟨some t,.box T x,ty,ps,af,none⟩).run P s.w = .ok (.value (.pointer (some ⟨s.w.heap.size,0,none⟩))) (s.w.alloc (.cells #[u] T)):=by
  simp only [execOp,e1,Instr.box,Sem.run_bind,Eg,Result.andThen_ok,Sem.run_pure,hcs]
 unfold Oper.wp
 rw [hrun]
 have hle:=s.le_mk' #[u] T 0 hT'
 refine hK _ _ _ h ⟨s.mk' #[u] T 0,_,rfl,hst.new (dst:=some t) (r:=.ptr hp.length 0) (ow:=.var T ([d].map .d)) hle (Fu (by simpa [Pw] using hd)) (u:=.pointer (some ⟨s.w.heap.size,0,none⟩)) ⟨Nat.lt_succ_self hp.length,s.w.heap.size,by simp,rfl⟩ ?_ fun b hb=>by cases hb;exact Nat.le_refl _⟩
 refine ⟨s.w.heap.size,#[u],by simp,Nat.zero_le _,heap_alloc_new s.w _,by simp,hT',fun k hk=>absurd (hst.ok.lt _ _ hk) (Nat.lt_irrefl _),fun k av hk=>?_⟩
 cases k with
 | zero=>cases hk;exact ⟨u,by simp,h1v,d.st hv hle.chg⟩
 | succ k=>cases hk
end
theorem UU (l : Ae) (n:Int) (cd:Abs Tryz.prog 55 [BT l,ex (.int .i64 n)] (ex (.int .i64 (-1)))):Abs Tryz.prog 56 [BT l,ex (.int .i64 n)] (ex (.int .i64 0)):=by
 refine Ab Tryz.func56 fun s0=>?_
 rw [Tryz.ntmps56]
 refine Y1<|Wa<|Y0<|Y1<|Wm<|Wm ?_;refine Wq (Ak (cd)) ?_;refine Wa<|Y0<|Ac<|Y1<|Wm ?_;refine Wq Am ?_;apply Y0;refine Ct ?_;refine Y1<|Wa<|Y0 ?_;apply Aw;apply Bb
 exact Yf
theorem UV (l : Ae) (n:Int) (Dg M:Nat) (F:Nat→Int) (cd:Abs Tryz.prog 55 [BT l,ex (.int .i64 n)] (ex (.int .i64 (Dg:Nat)))) (cc:Abs Tryz.prog 58 [BT l,ex (.int .i64 n),ex (.int .i64 (Dg:Nat))] (nD M F)) (hM:M≤100000) (hb:∀ k,k≤M→-9223372036854775808≤By k F∧By k F≤9223372036854775807):Abs Tryz.prog 56 [BT l,ex (.int .i64 n)] (ex (.int .i64 (By M F))):=by
 have hD:¬ ((Dg:Nat):Int)<0:=by omega
 refine Ab Tryz.func56 fun s0=>?_
 rw [Tryz.ntmps56]
 refine Y1<|Wa<|Y0<|Y1<|Wm<|Wm ?_;refine Wq (Ak (cd)) ?_;refine Wa<|Y0<|Ac<|Y1<|Wm ?_;refine Wq Ar ?_;apply Y0;refine Cf ?_;refine Ys<|Y1<|Wa<|Y0<|Ac<|Y1<|Wm<|Wm<|Wm ?_;refine Wq (Ak (cc)) ?_;refine Wq (Fo rfl (Aa rfl)) ?_;refine Wm<|Y0<|AWp.block ?_
 refine AO (fun mz σ=>∃ k,k≤M∧mz = M - k∧σ = ⟨[(6,.d (ex (.int .i64 (By k F)))),(17,.d (nD M F)),(18,.d (ex (.int .i64 (M:Nat)))),(19,.d (ex (.int .i64 (k:Nat))))],[]⟩) ?le ⟨0,by omega,rfl,rfl⟩ ?round
 case le=>exact Aj (by exact Yd<|Yd<|Yd<|Yd<|FrLe.nil) (by exact HpLe.nil)
 case round =>
  rintro mz _ ⟨k,hk,rfl,rfl⟩
  by_cases hlt:k<M
  ·have h1:=hb (k+1) hlt
   rw [By] at h1
   apply Y1;refine Wq Am ?_;refine Y0<|Ac ?_;refine Ct ?_;refine Ys<|Ac<|AWp.block<|Y1 ?_;refine Wq (KS (k:=k) rfl (ao rfl) (Aa rfl) (Aa rfl) rfl hlt) ?_;refine Wq Ed ?_;refine Wa<|Y0<|AWp.region<|Wm<|Wm ?_;refine Wq EX ?_;refine Wa ?_;apply AWl.nil;apply Aq;refine Yn<|AWp.region ?_;refine Wq AM ?_;refine Wm ?_;apply AWl.nil
   refine ALoop.next (M - (k+1)) (by omega) ⟨k+1,by omega,rfl,rfl⟩ ?_
   exact Aj (by exact Yd<|Yd<|Yd<|Yd<|FrLe.nil) (by exact HpLe.nil)
  ·obtain rfl : k = M := by omega
   apply Y1;refine Wq Ar ?_;refine Y0<|Ac ?_;refine Cf ?_;apply AK;apply AA;apply AB;apply AC;refine Yn<|Y1<|Wm<|Wa<|Y0 ?_;apply Aw
   exact Yf
theorem IS (l : Ae) (n d:Int) (ck:Abs Tryz.prog 46 [BT l,ex (.int .i64 n)] (ex (.int .i64 0))) (cd:Abs Tryz.prog 55 [BT l,ex (.int .i64 n)] (ex (.int .i64 d))):Abs Tryz.prog 22 [BT l,ex (.int .i64 n)] (DV [ex (.int .i64 d),ex (.int .i64 0)]):=by
 refine Ab Tryz.func22 fun s0=>?_
 rw [Tryz.ntmps22]
 refine Y1<|Wa<|Wa<|Y0<|Ac<|Y1<|Wm<|Wm ?_;refine Wq (Ak (ck)) ?_;refine Wa<|Y0<|Y1<|Wm ?_;refine Wq Ar ?_;apply Y0;refine Cf ?_;refine Ys<|Y1<|Wm<|Wm ?_;refine Wq (Ak (cd)) ?_;refine Wa<|Wa<|Y0 ?_;apply Aw
 exact BZ (CR (ResV.tmp rfl rfl) (ResV.tmp rfl rfl) (Cv (D.le.refl _) (D.le.refl _)))
theorem KV (l : Ae) (n d:Int) (ck:Abs Tryz.prog 46 [BT l,ex (.int .i64 n)] (ex (.int .i64 0))) (cd:Abs Tryz.prog 56 [BT l,ex (.int .i64 n)] (ex (.int .i64 d))):Abs Tryz.prog 24 [BT l,ex (.int .i64 n)] (DV [ex (.int .i64 d),ex (.int .i64 0)]):=by
 refine Ab Tryz.func24 fun s0=>?_
 rw [Tryz.ntmps24]
 refine Y1<|Wa<|Wa<|Y0<|Ac<|Y1<|Wm<|Wm ?_;refine Wq (Ak (ck)) ?_;refine Wa<|Y0<|Y1<|Wm ?_;refine Wq Ar ?_;apply Y0;refine Cf ?_;refine Ys<|Y1<|Wm<|Wm ?_;refine Wq (Ak (cd)) ?_;refine Wa<|Wa<|Y0 ?_;apply Aw
 exact BZ (CR (ResV.tmp rfl rfl) (ResV.tmp rfl rfl) (Cv (D.le.refl _) (D.le.refl _)))
theorem Zo (l : Ae) (n d:Int) (hd:d<0∨64<d) (ck:Abs Tryz.prog 46 [BT l,ex (.int .i64 n)] (ex (.int .i64 0))):Abs Tryz.prog 16 [BT l,ex (.int .i64 n),ex (.int .i64 d)] (DV [ex (.int .i64 0),ex (.int .i64 1)]):=by
 rcases hd with hd | hd
 ·refine Ab Tryz.func16 fun s0 => ?_
  rw [Tryz.ntmps16]
  refine Y1<|Wa<|Wa<|Y0<|Ac<|Y1<|Wm<|Wm ?_;refine Wq (Ak (ck)) ?_;refine Wa<|Y0<|Y1<|Wm ?_;refine Wq Ar ?_;apply Y0;refine Cf ?_;refine Ys<|Ac<|Y1<|Wm ?_;refine Wq Am ?_;refine Wm ?_;refine Ws ?_;refine Ws ?_;refine Wq AN ?_;apply Y0;refine Ct ?_;refine Y1<|Wa<|Wa<|Y0 ?_;apply Aw;apply Bb
  exact BZ (CR (ResV.tmp rfl rfl) (ResV.tmp rfl rfl) (Cv (D.le.refl _) (D.le.refl _)))
 ·have h0 : ¬ d < 0 := by omega
  refine Ab Tryz.func16 fun s0=>?_
  rw [Tryz.ntmps16]
  refine Y1<|Wa<|Wa<|Y0<|Ac<|Y1<|Wm<|Wm ?_;refine Wq (Ak (ck)) ?_;refine Wa<|Y0<|Y1<|Wm ?_;refine Wq Ar ?_;apply Y0;refine Cf ?_;refine Ys<|Ac<|Y1<|Wm ?_;refine Wq Ar ?_;refine Wm ?_;refine Wg Af ?_;refine Wg Am ?_;refine Wq Bi ?_;apply Y0;refine Ct ?_;refine Y1<|Wa<|Wa<|Y0 ?_;apply Aw;apply Bb
  exact BZ (CR (ResV.tmp rfl rfl) (ResV.tmp rfl rfl) (Cv (D.le.refl _) (D.le.refl _)))
theorem Mf (l : Ae) (n d:Int) (hd:0<d) (ck:Abs Tryz.prog 46 [BT l,ex (.int .i64 n)] (ex (.int .i64 0))) (cd:Abs Tryz.prog 55 [BT l,ex (.int .i64 n)] (ex (.int .i64 d))):Abs Tryz.prog 28 [BT l,ex (.int .i64 n)] (DV [ex (.slice none 0 0),ex (.int .i64 160)]):=by
 refine Ab Tryz.func28 fun s0=>?_
 rw [Tryz.ntmps28]
 apply Y1;refine RX (ao rfl) One.sl rfl rfl rfl rfl ?_;refine RY (ao rfl) rfl rfl rfl rfl rfl ?_;refine Wa<|Wa<|Y0<|Ac<|Y1 ?_;refine Wq BL ?_;refine Wq BL ?_;refine Wq (Ak (ck)) ?_;refine Wa<|Y0<|Y1<|Wm ?_;refine Wq Ar ?_;apply Y0;refine Cf ?_;refine Ys<|Ac<|Y1 ?_;refine Wq BL ?_;refine Wq BL ?_;refine Wq (Ak (cd)) ?_;refine Wq Am ?_;apply Y0;refine Ct ?_;refine Y1<|Wa<|Wa<|Y0 ?_;apply Aw;apply Bb
 exact BZ (CR (ResV.tmp rfl rfl) (ResV.tmp rfl rfl) (Cv (D.le.refl _) (D.le.refl _)))
abbrev XM (s : Nat):Ow:=.var 5 [.d (ex (.int .u8 (s:Nat)))]
def IL (s t:Nat):Bool:=(s != t) && Yi s t
theorem Oy (s t:Nat) (hs:s<256) (ht:t<256):Con Tryz.prog 54 [.d (ex (.int .u8 (t:Nat))),.ptr 0 0] [XM s] [] (fun r hp'=>r = .d (ex (.bool (IL s t)))∧hp' = [XM s,.dead]):=by
 by_cases h:s = t
 ·subst h
  have e:IL s s = false:=by simp [IL]
  rw [e]
  refine Bt Tryz.func54 rfl (As Tryz.func54 (by kernel_rfl) (by kernel_rfl)) rfl fun s0 pv0=>?_
  rw [Tryz.ntmps54]
  refine Y1<|Wa<|Y0<|Y1 ?_;refine Wq GY ?_;refine Wm ?_;refine Wq Ar ?_;refine Wm ?_;refine Ws ?_;refine Ws ?_;refine Ws ?_;refine Ws ?_;refine Wq Bi ?_;refine Wa<|Y0 ?_;apply Aw
  refine Bj (RetsA.one rfl) rfl ?_ rfl
  exact ⟨rfl,rfl⟩
 ·have h1 : ¬ ((s : Nat) : Int) = ((t : Nat) : Int) := by omega
  have e:IL s t = Yi s t:=by simp [IL,h]
  rw [e]
  refine Bt Tryz.func54 rfl (As Tryz.func54 (by kernel_rfl) (by kernel_rfl)) rfl fun s0 pv0=>?_
  rw [Tryz.ntmps54]
  refine Y1<|Wa<|Y0<|Y1 ?_;refine Wq GY ?_;refine Wm ?_;refine Wq Am ?_;refine Wm ?_;refine Wg GY ?_;refine Wg Af ?_;refine Wg (Pi (a:=s) (b:=t) (ao rfl) (ao rfl) hs ht) ?_;refine Wg Vq ?_;refine Wq AN ?_;refine Wa<|Y0 ?_;apply Aw
  refine Bj (RetsA.one rfl) rfl ?_ rfl
  exact ⟨rfl,rfl⟩
theorem Qw (L : List Nat) (s z:Nat) (hs:s<256) (hL:∀ k,k<L.length→L.getD k default<256) (hl:L.length≤1000) (hz:z≤L.length) (hp:∀ k,k<z→IL s (L.getD k default) = false) (he:z<L.length→IL s (L.getD z default) = true):Con Tryz.prog 103 [.d (Sd L),.fn 54 [0]] [XM s] [] (fun r hp'=>r = .d (ex (.int .i64 (if z<L.length then (z:Nat) else -1)))∧∃ tl,hp' = XM s :: .dead :: tl∧(tl = []∨tl = [.dead])):=by
 refine Bt Tryz.func103 rfl (As Tryz.func103 (by kernel_rfl) (by kernel_rfl)) rfl fun s0 pv0=>?_
 rw [Tryz.ntmps103]
 refine Y1<|Wa<|Y0<|Ac<|Y1<|Wm ?_;refine Wq Dl ?_;refine Wm<|Y0<|AWp.block ?_
 refine AO (fun mz σ=>∃ k,k≤z∧mz = z - k∧σ = ⟨[(0,.d (Sd L)),(1,.fn 54 [0]),(6,.d (Sd L)),(7,.d (ex (.int .i64 (L.length:Nat)))),(8,.d (ex (.int .i64 (k:Nat))))],[XM s,.pin [(pv0,.own 0)]]⟩) ?le ⟨0,by omega,rfl,rfl⟩ ?round
 case le=>exact Aj (by exact Yd<|FrLe.cons rfl (AVle.fn rfl)<|Yd<|Yd<|Yd<|FrLe.nil) (by exact HpLe.cons (BF rfl)<|HpLe.cons (Ba rfl)<|HpLe.nil)
 case round =>
  rintro mz _ ⟨k,hk,rfl,rfl⟩
  by_cases hlt:k<z
  ·have hlt' : k < L.length := by omega
   have hk:=hp k hlt
   apply Y1;refine Wq Am ?_;refine Y0<|Ac ?_;refine Ct ?_;refine Ys<|Ac<|AWp.block<|Y1<|Wm<|Wa<|Y0<|Y1<|Wm<|Wm<|Wm ?_;refine Wq BE ?_;refine Wq Ed ?_
   refine Bc [0] [0] (Oy s (L.getD k default) hs (hL k hlt')) (by first | exact Or.inl rfl | exact Or.inr ⟨by decide,rfl,by repeat (first | exact AvoidR.nil | refine AF rfl ?_ | refine AvoidR.dead ?_ | refine AJ ?_ | refine AvoidR.obj ?_ | refine AD ?_ | refine AE rfl ?_ | refine AvoidR.pin rfl ?_)⟩) rfl rfl (by first | exact .inl ⟨rfl,rfl⟩ | exact .inr ⟨rfl,rfl⟩) (by repeat (first | exact ArgsC.nil | refine ArgsC.d rfl (D.le.refl _) ?_ | refine AT rfl rfl ?_)) (by decide) (by repeat (first | exact SelR.nil | refine SelR.var rfl ?_ | refine SelR.obj rfl ?_ | refine AZ rfl ?_ | refine AR rfl rfl rfl ?_)) (by repeat (first | exact trivial | refine ⟨⟨_,_,rfl⟩,?_⟩)) rfl ?_
   rintro _ _ ⟨rfl,rfl⟩
   refine ⟨_,_,_,(by first | exact AVRen.d | exact AVRen.own rfl | exact AVRen.ptr rfl | exact AVRen.fn rfl),(by repeat (first | exact SetR.nil | (apply SetR.cons;(first | exact OwRen.dead | exact Ah | exact OwRen.obj | exact Ao | exact Ai rfl);exact rfl))),(by repeat (first | exact AppR.nil | (apply AppR.cons;(first | exact OwRen.dead | exact Ah | exact OwRen.obj | exact Ao | exact Ai rfl);exact rfl))),?_⟩
   try simp only [AU,Bg]
   rw [hk]
   apply Y0;refine Cf ?_;apply Bv;apply Aq;refine Yn<|AWp.region ?_;refine Wq AM ?_;refine Wm ?_;apply AWl.nil
   refine ALoop.next (z - (k+1)) (by omega) ⟨k+1,by omega,rfl,rfl⟩ ?_
   exact Aj (by exact Yd<|FrLe.cons rfl (AVle.fn rfl)<|Yd<|Yd<|Yd<|FrLe.nil) (by exact HpLe.cons (BF rfl)<|HpLe.cons (Ba rfl)<|HpLe.nil)
  ·obtain rfl : k = z := by omega
   by_cases hlt:k<L.length
   ·have hk:=he hlt
    apply Y1;refine Wq Am ?_;refine Y0<|Ac ?_;refine Ct ?_;refine Ys<|Ac<|AWp.block<|Y1<|Wm<|Wa<|Y0<|Y1<|Wm<|Wm<|Wm ?_;refine Wq BE ?_;refine Wq Ed ?_
    refine Bc [0] [0] (Oy s (L.getD k default) hs (hL k hlt)) (by first | exact Or.inl rfl | exact Or.inr ⟨by decide,rfl,by repeat (first | exact AvoidR.nil | refine AF rfl ?_ | refine AvoidR.dead ?_ | refine AJ ?_ | refine AvoidR.obj ?_ | refine AD ?_ | refine AE rfl ?_ | refine AvoidR.pin rfl ?_)⟩) rfl rfl (by first | exact .inl ⟨rfl,rfl⟩ | exact .inr ⟨rfl,rfl⟩) (by repeat (first | exact ArgsC.nil | refine ArgsC.d rfl (D.le.refl _) ?_ | refine AT rfl rfl ?_)) (by decide) (by repeat (first | exact SelR.nil | refine SelR.var rfl ?_ | refine SelR.obj rfl ?_ | refine AZ rfl ?_ | refine AR rfl rfl rfl ?_)) (by repeat (first | exact trivial | refine ⟨⟨_,_,rfl⟩,?_⟩)) rfl ?_
    rintro _ _ ⟨rfl,rfl⟩
    refine ⟨_,_,_,(by first | exact AVRen.d | exact AVRen.own rfl | exact AVRen.ptr rfl | exact AVRen.fn rfl),(by repeat (first | exact SetR.nil | (apply SetR.cons;(first | exact OwRen.dead | exact Ah | exact OwRen.obj | exact Ao | exact Ai rfl);exact rfl))),(by repeat (first | exact AppR.nil | (apply AppR.cons;(first | exact OwRen.dead | exact Ah | exact OwRen.obj | exact Ao | exact Ai rfl);exact rfl))),?_⟩
    try simp only [AU,Bg]
    rw [hk]
    apply Y0;refine Ct ?_;refine Y1<|Wm<|Wa<|Y0 ?_;apply Aw;apply Ca;apply Bb;apply En;apply Ca;apply Bb
    refine Bj (RetsA.one rfl) rfl ?_ rfl
    exact ⟨by rw [if_pos hlt],_,rfl,.inr rfl⟩
   ·apply Y1;refine Wq Ar ?_;refine Y0<|Ac ?_;refine Cf ?_;apply AK;apply AA;apply AB;apply AC;refine Yn<|Y1<|Wa<|Y0 ?_;apply Aw
    refine Bj (RetsA.one rfl) rfl ?_ rfl
    exact ⟨by rw [if_neg hlt],_,rfl,.inl rfl⟩
theorem Vj (p : Nat→Bool) (l:List Nat):∃ z,z≤l.length∧(∀ k,k<z→p (l.getD k default) = false)∧(z<l.length→p (l.getD z default) = true)∧l.any p = decide (z<l.length):=by
 induction l with
 | nil=>exact ⟨0,Nat.le_refl 0,fun k hk=>absurd hk (by omega),fun h=>absurd h (by simp),rfl⟩
 | cons a l ih =>
  cases ha:p a with
  | true=>exact ⟨0,by simp,fun k hk=>absurd hk (by omega),fun _=>ha,by simp [ha]⟩
  | false =>
   obtain ⟨z,h1,h2,h3,h4⟩:=ih
   refine ⟨z+1,by simpa using h1,fun k hk=>?_,fun h=>h3 (by simpa using h),by simp [ha,h4]⟩
   cases k with
   | zero=>exact ha
   | succ k=>exact h2 k (by omega)
theorem Tt (L : List Nat) (s:Nat) (hs:s<256) (hL:∀ k,k<L.length→L.getD k default<256) (hl:L.length≤1000):Con Tryz.prog 53 [.d (Sd L),.fn 54 [0]] [XM s] [] (fun r hp'=>r = .d (ex (.bool (L.any (IL s))))∧hp' = [XM s,.dead,.dead]):=by
 obtain ⟨z,h1,h2,h3,h4⟩:=Vj (IL s) L
 rw [h4]
 have c:=(Qw L s z hs hL hl h1 h2 h3).mono (Q':=fun r hp'=>r = .d (ex (.int .i64 (if z<L.length then (z:Nat) else -1)))∧∃ tl,hp' = XM s :: .dead :: tl) fun r hp' ⟨q1,tl,q2,_⟩=>⟨q1,tl,q2⟩
 have c:=Pp (s:=s) c
 by_cases hz:z<L.length
 ·rw [if_pos hz] at c
  rw [decide_eq_true hz]
  refine Bt Tryz.func53 rfl (As Tryz.func53 (by kernel_rfl) (by kernel_rfl)) rfl fun s0 pv0=>?_
  rw [Tryz.ntmps53]
  refine Y1<|Wa<|Y0<|Y1<|Wm<|Wm ?_
  refine Bc [0] [] (c) (by first | exact Or.inl rfl | exact Or.inr ⟨by decide,rfl,by repeat (first | exact AvoidR.nil | refine AF rfl ?_ | refine AvoidR.dead ?_ | refine AJ ?_ | refine AvoidR.obj ?_ | refine AD ?_ | refine AE rfl ?_ | refine AvoidR.pin rfl ?_)⟩) rfl rfl (by first | exact .inl ⟨rfl,rfl⟩ | exact .inr ⟨rfl,rfl⟩) (by repeat (first | exact ArgsC.nil | refine ArgsC.d rfl (D.le.refl _) ?_ | refine AT rfl rfl ?_)) (by decide) (by repeat (first | exact SelR.nil | refine SelR.var rfl ?_ | refine SelR.obj rfl ?_ | refine AZ rfl ?_ | refine AR rfl rfl rfl ?_)) (by repeat (first | exact trivial | refine ⟨⟨_,_,rfl⟩,?_⟩)) rfl ?_
  rintro _ _ ⟨rfl,rfl⟩
  refine ⟨_,_,_,(by first | exact AVRen.d | exact AVRen.own rfl | exact AVRen.ptr rfl | exact AVRen.fn rfl),(by repeat (first | exact SetR.nil | (apply SetR.cons;(first | exact OwRen.dead | exact Ah | exact OwRen.obj | exact Ao | exact Ai rfl);exact rfl))),(by repeat (first | exact AppR.nil | (apply AppR.cons;(first | exact OwRen.dead | exact Ah | exact OwRen.obj | exact Ao | exact Ai rfl);exact rfl))),?_⟩
  try simp only [AU,Bg]
  refine Wq Am ?_;refine Wa<|Y0 ?_;apply Aw
  refine Bj (RetsA.one rfl) rfl ?_ rfl
  exact ⟨rfl,rfl⟩
 ·rw [if_neg hz] at c
  rw [decide_eq_false hz]
  refine Bt Tryz.func53 rfl (As Tryz.func53 (by kernel_rfl) (by kernel_rfl)) rfl fun s0 pv0=>?_
  rw [Tryz.ntmps53]
  refine Y1<|Wa<|Y0<|Y1<|Wm<|Wm ?_
  refine Bc [0] [] (c) (by first | exact Or.inl rfl | exact Or.inr ⟨by decide,rfl,by repeat (first | exact AvoidR.nil | refine AF rfl ?_ | refine AvoidR.dead ?_ | refine AJ ?_ | refine AvoidR.obj ?_ | refine AD ?_ | refine AE rfl ?_ | refine AvoidR.pin rfl ?_)⟩) rfl rfl (by first | exact .inl ⟨rfl,rfl⟩ | exact .inr ⟨rfl,rfl⟩) (by repeat (first | exact ArgsC.nil | refine ArgsC.d rfl (D.le.refl _) ?_ | refine AT rfl rfl ?_)) (by decide) (by repeat (first | exact SelR.nil | refine SelR.var rfl ?_ | refine SelR.obj rfl ?_ | refine AZ rfl ?_ | refine AR rfl rfl rfl ?_)) (by repeat (first | exact trivial | refine ⟨⟨_,_,rfl⟩,?_⟩)) rfl ?_
  rintro _ _ ⟨rfl,rfl⟩
  refine ⟨_,_,_,(by first | exact AVRen.d | exact AVRen.own rfl | exact AVRen.ptr rfl | exact AVRen.fn rfl),(by repeat (first | exact SetR.nil | (apply SetR.cons;(first | exact OwRen.dead | exact Ah | exact OwRen.obj | exact Ao | exact Ai rfl);exact rfl))),(by repeat (first | exact AppR.nil | (apply AppR.cons;(first | exact OwRen.dead | exact Ah | exact OwRen.obj | exact Ao | exact Ai rfl);exact rfl))),?_⟩
  try simp only [AU,Bg]
  refine Wq Ar ?_;refine Wa<|Y0 ?_;apply Aw
  refine Bj (RetsA.one rfl) rfl ?_ rfl
  exact ⟨rfl,rfl⟩
theorem Tq (l : Ae) (n:Nat) (hn:n≤8) (hl:l.length≤1000) (ck:Abs Tryz.prog 46 [BT l,ex (.int .i64 (n:Nat))] (ex (.int .i64 0))):Abs Tryz.prog 18 [BT l,ex (.int .i64 (n:Nat))] (DV [Sd (Yx l (2 ^ n)),ex (.int .i64 0)]):=by
 have h256:=Ue hn
 have ci:=LR l n hn hl
 have hL:∀ k,k<(DJ l (2 ^ n)).length→(DJ l (2 ^ n)).getD k default<256:=fun k hk=>by
  have:(DJ l (2 ^ n)).getD k default∈DJ l (2 ^ n):=by
   rw [List.getD_eq_getElem?_getD,List.getElem?_eq_getElem hk]
   exact List.getElem_mem hk
  have:=RB this
  omega
 have hlen:=MR l (2 ^ n)
 unfold Yx
 generalize DJ l (2 ^ n) = L at ci hL hlen ⊢
 have hfl:∀ k,((L.take k).filter fun s => !L.any (IL s)).length≤k:=fun k=>by
  have h1:=List.length_filter_le (fun s => !L.any (IL s)) (L.take k)
  rw [List.length_take] at h1
  omega
 refine Ab Tryz.func18 fun s0=>?_
 rw [Tryz.ntmps18]
 refine Y1<|Wa<|Wa<|Y0<|Ac<|Y1<|Wm<|Wm ?_;refine Wq (Ak (ck)) ?_;refine Wa<|Y0<|Y1<|Wm ?_;refine Wq Ar ?_;apply Y0;refine Cf ?_;refine Ys<|Y1<|Wm<|Wm ?_;refine Wq (Ak (ci)) ?_;refine Wa<|Y0<|Y1<|Wa<|Y0<|Ac<|Y1<|Wm ?_;refine Wq Dl ?_;refine Wm<|Y0<|AWp.block ?_
 refine HL 8 5 1 rfl (by decide) (by decide) rfl rfl ?_
 skip
 refine AO (fun mz σ=>∃ k,k≤L.length∧mz = L.length - k∧σ = ⟨[(7,.d (Sd L)),(8,.own 0),(20,.d (Sd L)),(21,.d (ex (.int .i64 (L.length:Nat)))),(22,.d (ex (.int .i64 (k:Nat))))],[.row 5 1 (((L.take k).filter fun s => !L.any (IL s)).map fun s=>[ex (.int .u8 (s:Nat))])]⟩) ?le ⟨0,by omega,rfl,rfl⟩ ?round
 case le=>exact Aj (by exact Yd<|FrLe.cons rfl (AVle.own rfl)<|Yd<|Yd<|Yd<|FrLe.nil) (by exact Yr<|HpLe.nil)
 case round =>
  rintro mz _ ⟨k,hk,rfl,rfl⟩
  by_cases hlt:k<L.length
  ·have hk:=hL k hlt
   have hle:=hfl k
   apply Y1;refine Wq Am ?_;refine Y0<|Ac ?_;refine Ct ?_;refine Ys<|Ac<|AWp.block<|Y1 ?_;refine Wq BE ?_;refine Wq Ed ?_;refine Al ?_;refine Iw (ao rfl) (ao rfl) rfl (Aa rfl) (by first | exact CH rfl | exact One.sl | exact Fw) rfl rfl ?_;refine Y0<|Y1<|Wm ?_;refine Wq (Fm [1] rfl) ?_
   refine Bc [1] [] (Tt L (L.getD k default) hk hL (by omega)) (by first | exact Or.inl rfl | exact Or.inr ⟨by decide,rfl,by repeat (first | exact AvoidR.nil | refine AF rfl ?_ | refine AvoidR.dead ?_ | refine AJ ?_ | refine AvoidR.obj ?_ | refine AD ?_ | refine AE rfl ?_ | refine AvoidR.pin rfl ?_)⟩) rfl rfl (by first | exact .inl ⟨rfl,rfl⟩ | exact .inr ⟨rfl,rfl⟩) (by repeat (first | exact ArgsC.nil | refine ArgsC.d rfl (D.le.refl _) ?_ | refine AT rfl rfl ?_)) (by decide) (by repeat (first | exact SelR.nil | refine SelR.var rfl ?_ | refine SelR.obj rfl ?_ | refine AZ rfl ?_ | refine AR rfl rfl rfl ?_)) (by repeat (first | exact trivial | refine ⟨⟨_,_,rfl⟩,?_⟩)) rfl ?_
   rintro _ _ ⟨rfl,rfl⟩
   refine ⟨_,_,_,(by first | exact AVRen.d | exact AVRen.own rfl | exact AVRen.ptr rfl | exact AVRen.fn rfl),(by repeat (first | exact SetR.nil | (apply SetR.cons;(first | exact OwRen.dead | exact Ah | exact OwRen.obj | exact Ao | exact Ai rfl);exact rfl))),(by repeat (first | exact AppR.nil | (apply AppR.cons;(first | exact OwRen.dead | exact Ah | exact OwRen.obj | exact Ao | exact Ai rfl);exact rfl))),?_⟩
   try simp only [AU,Bg,Rf]
   cases hb:L.any (IL (L.getD k default)) with
   | true =>
    refine Wq Ec ?_;apply Y0;refine Cf ?_;apply Bv;apply Aq;refine Yn<|AWp.region ?_;refine Wq AM ?_;refine Wm ?_;apply AWl.nil
    refine ALoop.next (L.length - (k+1)) (by omega) ⟨k+1,by omega,rfl,rfl⟩ ?_
    exact Aj (by exact Yd<|FrLe.cons rfl (AVle.own rfl)<|Yd<|Yd<|Yd<|FrLe.nil) (by (refine HpLe.cons (CB (by rw [Iz hlt,List.filter_append,List.filter_cons,hb];simp)) ?_);exact HpLe.nil)
   | false =>
    refine Wq Ec ?_;apply Y0;refine Ct ?_;refine AWp.region<|Wm ?_;refine Wq BL ?_;(refine CM rfl rfl ?_;(refine DD (Aa rfl) (Aa rfl) rfl rfl rfl rfl rfl ?_;(repeat ((first | refine ⟨_,Bp (ao rfl),?_⟩ | refine ⟨_,Po rfl,?_⟩);refine ⟨_,rfl,?_⟩));refine ⟨_,rfl,?_⟩));(refine Nt (ao rfl) rfl rfl (Aa rfl) (Aa rfl) rfl rfl (by simp [Cu];omega) (by simp [Cu];omega) rfl (by first | ((repeat (first | exact PlainHp.nil | refine PlainHp.var ?_ | refine Df ?_ | refine PlainHp.dead ?_ | refine PlainHp.obj ?_ | refine PlainHp.pin rfl ?_ | refine CP rfl ?_));done) | fail) rfl ?_);refine Wa ?_;apply AWl.nil;apply Aq;refine Yn<|AWp.region ?_;refine Wq AM ?_;refine Wm ?_;apply AWl.nil
    refine ALoop.next (L.length - (k+1)) (by omega) ⟨k+1,by omega,rfl,rfl⟩ ?_
    exact Aj (by exact Yd<|FrLe.cons rfl (AVle.own rfl)<|Yd<|Yd<|Yd<|FrLe.nil) (by (refine HpLe.cons (CB (by rw [Iz hlt,List.filter_append,List.filter_cons,hb];exact QM _ _)) ?_);exact HpLe.nil)
  ·obtain rfl : k = L.length := by omega
   apply Y1;refine Wq Ar ?_;refine Y0<|Ac ?_;refine Cf ?_;apply AK;apply AA;apply AB;apply AC;refine Yn<|Y1<|Wm<|Wa<|Wa<|Y0 ?_;apply Aw
   rw [List.take_length]
   exact BZ (CR (ResV.tmp rfl rfl) (ResV.tmp rfl rfl) (Cv (D.le.refl _) (D.le.refl _)))
def CL (F : Nat→Rat) (j:Nat):List D:=CF (F j)
theorem EM (F : Nat→Rat) (j:Nat):(CL F j).length = 4:=DO _
def DU (n : Nat) (F:Nat→Rat):D:=rD 71 4 (CL F) n
def zz : List D:=[ex (.bool false),ex (.slice none 0 0),ex (.bool false),ex (.slice none 0 0)]
abbrev q0 : Rat:=((0:Int):Rat)
def zF (k j:Nat):List D:=if j<k then CF q0 else zz
theorem Yb (k j:Nat):(zF k j).length = 4:=by
 unfold zF
 split
 ·exact DO _
 ·rfl
theorem A0A : zF 0 = fun _=>zz:=funext fun j=>if_neg (by omega)
theorem Ya (k : Nat):TD (zF k) k (CF q0) = zF (k+1):=by
 funext j
 unfold TD zF
 by_cases h:j = k
 ·rw [if_pos h,if_pos (by omega)]
 ·rw [if_neg h]
  by_cases h2:j<k
  ·rw [if_pos h2,if_pos (by omega)]
  ·rw [if_neg h2,if_neg (by omega)]
theorem Yc (n : Nat):flF (zF n) n = flF (CL fun _=>q0) n:=SD fun j hj=>if_pos hj
theorem JE (n : Nat) (hn:n≤100000):Con Tryz.prog 113 [.d (ex (.int .i64 (n:Nat)))] [] [] (fun r hp'=>∃ g,r = .d (sX g n n)∧hp' = [.dead,.obj (Bk [⟨g,71,flF (CL fun _=>q0) n⟩])]):=by
 refine Gg Tryz.func113 rfl (As Tryz.func113 (by kernel_rfl) (by kernel_rfl)) rfl fun s0=>?_
 rw [Tryz.ntmps113]
 refine Y1<|Wa<|Y0<|Y1<|Wm ?_;refine XB (sz:=4) (c:=n) (ao rfl) (ao rfl) (Aa rfl) (Aa rfl) rfl (by decide) rfl (by omega) rfl rfl rfl rfl (fun g=>rfl) fun g=>?_;refine Wa<|Y0<|Ac<|Y1<|Wm<|Wm<|Y0<|AWp.block ?_
 refine AO (fun mz σ=>∃ k,k≤n∧mz = n - k∧σ = ⟨[(3,.d (sX g n n)),(7,.d (ex (.int .i64 (n:Nat)))),(8,.d (ex (.int .i64 (k:Nat))))],[.pin [],.obj (Bk [⟨g,71,flF (zF k) n⟩])]⟩) ?le ⟨0,by omega,rfl,rfl⟩ ?round
 case le=>exact Aj (by exact Yd<|Yd<|Yd<|FrLe.nil) (by refine HpLe.cons (Ba rfl) ?_;(refine HpLe.cons (OwLe.obj (by rw [A0A];rfl)) ?_);exact HpLe.nil)
 case round =>
  rintro mz _ ⟨k,hk,rfl,rfl⟩
  by_cases hlt:k<n
  ·have hst:SetAt (flF (zF k) n) (k*4) (CF q0) (flF (zF (k+1)) n):=Ya k ▸ SetAt.flF (Yb k) (DO _) hlt
   apply Y1;refine Wq Am ?_;refine Y0<|Ac ?_;refine Ct ?_;refine Ys<|Ac<|AWp.block<|Y1<|Wm<|Wa<|Y0<|AWp.region<|Wm<|Wm ?_;refine Wq (Ak (IM 0 (by omega) (by omega))) ?_;refine Wq (CA (k:=k) (ao rfl) (ao rfl) (Aa rfl) (Aa rfl) hlt) ?_;refine RW (e:=⟨g,71,flF (zF k) n⟩) 1 0 (ao rfl) (ao rfl) rfl rfl (Aa rfl) rfl hst rfl ?_;apply AWl.nil;apply Aq;refine Yn<|AWp.region ?_;refine Wq AM ?_;refine Wm ?_;apply AWl.nil
   refine ALoop.next (n - (k+1)) (by omega) ⟨k+1,by omega,rfl,rfl⟩ ?_
   exact Aj (by exact Yd<|Yd<|Yd<|FrLe.nil) (by exact HpLe.cons (Ba rfl)<|HpLe.cons (OwLe.obj rfl)<|HpLe.nil)
  ·obtain rfl : k = n := by omega
   apply Y1;refine Wq Ar ?_;refine Y0<|Ac ?_;refine Cf ?_;apply AK;apply AA;apply AB;apply AC;refine Yn<|Y1<|Wm<|Wa<|Y0 ?_;apply Aw
   refine Bj (RetsA.one rfl) rfl ?_ rfl
   exact ⟨g,rfl,by rw [Yc]⟩
section
variable {P : Program} {hp:List Ow} {arg:Operand→AV} {dd:Option Tmp} {ty:TypeId} {ps:String} {af:Array Edge} {gd:Option (Nat × Bool)}
theorem Ua {r k:Nat} (h:k<r):(List.range r).getD k default = k:=by
 rw [List.getD_eq_getElem?_getD,List.getElem?_range h];rfl
theorem Nn {x y:Operand} {t:TypeId} {e n b n' b' T sz r k:Nat} {d:TypeDesc} {z z':Value} {F:Nat→List D} {κ:IntKind} (hx:DX hp (arg x) = some (rD T sz F r)) (hy:arg y = .d (ex (.int κ ((k:Nat):Int)))) (ht:Tab P t (.slice e) n b z) (he:Tab P e d n' b' z') (hsz:n' = sz) (hk:k<r):Quiet P hp ⟨dd,.indexAddr t x y,ty,ps,af,gd⟩ arg (.d (Il T (F k))):=by
 have:=GZ (dd:=dd) (ty:=ty) (ps:=ps) (af:=af) (gd:=gd) hx hy ht he hsz (by simpa using hk)
 rwa [Ua hk] at this
theorem DG {x : Operand} {t:TypeId} {e n b T sz r:Nat} {z:Value} {F:Nat→List D} (hx:DX hp (arg x) = some (rD T sz F r)) (ht:Tab P t (.slice e) n b z):Quiet P hp ⟨dd,.call { callee:=.builtin .len,args:=#[x],argTypes:=#[t] },ty,ps,af,gd⟩ arg (.d (ex (.int .i64 (r:Nat)))):=by
 have:=Is (dd:=dd) (ty:=ty) (ps:=ps) (af:=af) (gd:=gd) hx ht
 rwa [List.length_range] at this
end
def EF (H : Nat→Rat) (c:Rat) (G:Nat→Rat) (k i j:Nat):Rat:=if k≤j∧j<k+i then H j+c*G (j - k) else H j
theorem Mc (H : Nat→Rat) (c:Rat) (G:Nat→Rat) (k:Nat):EF H c G k 0 = H:=funext fun j=>if_neg (by omega)
theorem RM (H : Nat→Rat) (c:Rat) (G:Nat→Rat) (k i:Nat):EF H c G k i (i+k) = H (i+k):=if_neg (by omega)
theorem SU (H : Nat→Rat) (c:Rat) (G:Nat→Rat) (k i:Nat):TD (CL (EF H c G k i)) (i+k) (CF (EF H c G k i (i+k)+c*G i)) = CL (EF H c G k (i+1)):=by
 funext j
 unfold TD CL
 by_cases h:j = i+k
 ·subst h
  rw [if_pos rfl,RM,EF,if_pos (by omega),show i+k - k = i by omega]
 ·rw [if_neg h,EF,EF]
  by_cases h2:k≤j∧j<k+i
  ·rw [if_pos h2,if_pos (by omega)]
  ·rw [if_neg h2,if_neg (by omega)]
theorem Md {H : Nat→Rat} {c:Rat} {G:Nat→Rat} {k i:Nat} (h:c = 0∨G i = 0):EF H c G k i = EF H c G k (i+1):=by
 funext j
 unfold EF
 by_cases h2:k≤j∧j<k+i
 ·rw [if_pos h2,if_pos (by omega)]
 ·rw [if_neg h2]
  split
  ·have e : j - k = i := by omega
   rw [e]
   rcases h with h | h
   ·rw [h,Rat.zero_mul,Rat.add_zero]
   ·rw [h,Rat.mul_zero,Rat.add_zero]
  ·rfl
theorem Me {H : Nat→Rat} {c:Rat} {G:Nat→Rat} {k:Nat} (h:c = 0):∀ i,EF H c G k i = H
 | 0=>Mc H c G k
 | i+1=>by rw [← Md (.inl h),Me h i]
theorem DL {q : Rat}:q.num.sign = 0↔q = 0:=by
 rw [Int.sign_eq_zero_iff_zero,Rat.num_eq_zero]
theorem OV (g n cap m k S1 S2 S3:Nat) (H G:Nat→Rat) (c:Rat) (hH:∀ j,RSz (H j) S1) (hc:RSz c S2) (hG:∀ j,RSz (G j) S3) (hS:S1+(S2+S3)+1≤4398046511104) (hk:k+m≤n) (hn:n≤100000):Con Tryz.prog 114 [.d (sX g n cap),.d (BX (CF c)),.d (DU m G),.d (ex (.int .i64 (k:Nat)))] [.obj (Bk [⟨g,71,flF (CL H) n⟩])] [] (fun r hp'=>r = .d Cl∧hp' = [.obj (Bk [⟨g,71,flF (CL (EF H c G k m)) n⟩]),.dead,.var 71 ((CF c).map .d)]):=by
 by_cases h0:c = 0
 ·rw [Me h0]
  have hs:c.num.sign = 0:=DL.2 h0
  refine Bt Tryz.func114 rfl (As Tryz.func114 (by kernel_rfl) (by kernel_rfl)) rfl fun s0 pv0=>?_
  rw [Tryz.ntmps114]
  apply Y1;refine Bx ?_;refine Y0<|Ac<|Y1 ?_;refine Wq AQ ?_;refine Wq (Ak (Ez c)) ?_;refine Wq Am ?_;apply Y0;refine Ct ?_;apply Aw;apply Bb
  refine Bj Ek rfl ?_ rfl
  exact ⟨rfl,rfl⟩
 ·have hs:¬ c.num.sign = 0:=fun h=>h0 (DL.1 h)
  refine Bt Tryz.func114 rfl (As Tryz.func114 (by kernel_rfl) (by kernel_rfl)) rfl fun s0 pv0=>?_
  rw [Tryz.ntmps114]
  apply Y1;refine Bx ?_;refine Y0<|Ac<|Y1 ?_;refine Wq AQ ?_;refine Wq (Ak (Ez c)) ?_;refine Wq Ar ?_;apply Y0;refine Cf ?_;refine Ys<|Y1<|Wm ?_;refine Wq (DG (F:=CL G) rfl (Aa rfl)) ?_;refine Wm<|Y0<|AWp.block ?_
  refine AO (fun mz σ=>∃ i,i≤m∧mz = m - i∧σ = ⟨[(0,.d (sX g n cap)),(3,.d (ex (.int .i64 (k:Nat)))),(5,.ptr 2 0),(13,.d (DU m G)),(14,.d (ex (.int .i64 (m:Nat)))),(15,.d (ex (.int .i64 (i:Nat))))],[.obj (Bk [⟨g,71,flF (CL (EF H c G k i)) n⟩]),.pin [(pv0,.own 0)],.var 71 ((CF c).map .d)]⟩) ?lei ⟨0,by omega,rfl,rfl⟩ ?roundi
  case lei=>exact Aj (by exact Yd<|Yd<|Yp<|Yd<|Yd<|Yd<|FrLe.nil) (by exact HpLe.cons (OwLe.obj (by rw [Mc]))<|HpLe.cons (Ba rfl)<|Yv<|HpLe.nil)
  case roundi =>
   rintro mz _ ⟨i,hi,rfl,rfl⟩
   by_cases hlti:i<m
   ·have hz : RSz (EF H c G k i (i + k)) S1 := by rw [RM]; exact hH _
    have hst:SetAt (flF (CL (EF H c G k i)) n) ((i+k)*4) (CF (EF H c G k i (i+k)+c*G i)) (flF (CL (EF H c G k (i+1))) n):=SU H c G k i ▸ SetAt.flF (EM _) (DO _) (by omega)
    by_cases hgz:G i = 0
    ·have hgs:(G i).num.sign = 0:=DL.2 hgz
     apply Y1;refine Wq Am ?_;refine Y0<|Ac ?_;refine Ct ?_;refine Ys<|Ac<|AWp.block<|Y1<|Wm ?_;refine Wq (Nn (F:=CL G) (k:=i) rfl (ao rfl) (Aa rfl) (Aa rfl) rfl hlti) ?_;refine Wq Bw ?_;refine Al ?_;refine Wa ?_;refine Sf ?_;refine Y0<|Y1 ?_;refine Wq AQ ?_;refine Wq (Ak (Ez (G i))) ?_;refine Wq Ar ?_;apply Y0;refine Cf ?_;apply Bv;apply Aq;refine Yn<|AWp.region ?_;refine Wq AM ?_;refine Wm ?_;apply AWl.nil
     refine ALoop.next (m - (i+1)) (by omega) ⟨i+1,by omega,rfl,rfl⟩ ?_
     exact Aj (by exact Yd<|Yd<|Yp<|Yd<|Yd<|Yd<|FrLe.nil) (by refine HpLe.cons (OwLe.obj (by rw [Md (.inr hgz)])) ?_;exact HpLe.cons (Ba rfl)<|Yv<|HpLe.nil)
    ·have hgs:¬ (G i).num.sign = 0:=fun h=>hgz (DL.1 h)
     apply Y1;refine Wq Am ?_;refine Y0<|Ac ?_;refine Ct ?_;refine Ys<|Ac<|AWp.block<|Y1<|Wm ?_;refine Wq (Nn (F:=CL G) (k:=i) rfl (ao rfl) (Aa rfl) (Aa rfl) rfl hlti) ?_;refine Wq Bw ?_;refine Al ?_;refine Wa ?_;refine Sf ?_;refine Y0<|Y1 ?_;refine Wq AQ ?_;refine Wq (Ak (Ez (G i))) ?_;refine Wq Am ?_;apply Y0;refine Ct ?_
     refine Dr [[],[],[],[(24,1),(25,2)],[],[],[],[(28,5),(29,6)],[(27,4),(30,7)],[(31,8)],[],[],[(33,10),(34,11)],[(32,9),(35,12)],[(23,0),(26,3)]] [[],[],[],[1,2],[],[],[],[5,6],[4,5,6,7],[4,5,6,7,8],[],[],[10,11],[4,5,6,7,8,9,10,11,12],[0,1,2,3,4,5,6,7,8,9,10,11,12,13]] ?_
     refine Xq Af ?_;refine Xq Af ?_;refine Xq Af ?_;refine Xq EX ?_;refine Xq Af ?_;refine Xq Af ?_;refine Xq Af ?_;refine Xq EX ?_;refine Xq (CA (k:=i+k) (ah rfl) (ah rfl) (Aa rfl) (Aa rfl) (by omega)) ?_;refine Xq (KR (e:=⟨g,71,flF (CL (EF H c G k i)) n⟩) 0 0 (ah rfl) rfl rfl (Aa rfl) rfl (PartAt.flF (EM _) (by omega))) ?_;refine Xq AQ ?_;refine Xq AQ ?_;refine Xq (Ak (Xt c (G i) S2 S3 hc (hG i) (by omega))) ?_;refine Xq (Ak (Xz (EF H c G k i (i+k)) (c*G i) S1 (S2+S3) hz (hc.mul (hG i)) hS)) ?_;refine Xq (CA (k:=i+k) (ah rfl) (ah rfl) (Aa rfl) (Aa rfl) (by omega)) ?_;refine ⟨_,rfl,?_⟩
     refine RW (e:=⟨g,71,flF (CL (EF H c G k i)) n⟩) 0 0 (ao rfl) (ao rfl) rfl rfl (Aa rfl) rfl hst rfl ?_;apply AWl.nil;apply Aq;refine Yn<|AWp.region ?_;refine Wq AM ?_;refine Wm ?_;apply AWl.nil
     refine ALoop.next (m - (i+1)) (by omega) ⟨i+1,by omega,rfl,rfl⟩ ?_
     exact Aj (by exact Yd<|Yd<|Yp<|Yd<|Yd<|Yd<|FrLe.nil) (by exact HpLe.cons (OwLe.obj rfl)<|HpLe.cons (Ba rfl)<|Yv<|HpLe.nil)
   ·obtain rfl : i = m := by omega
    apply Y1;refine Wq Ar ?_;refine Y0<|Ac ?_;refine Cf ?_;apply AK;apply AA;apply AB;apply AC
    refine GL Ek rfl ?_ rfl
    exact ⟨rfl,rfl⟩
theorem ZL {x : Int} (k:Nat) (hk:1≤k) (h:x.natAbs<BB ^ k):RSz ((x:Int):Rat) k:=by
 refine ⟨EK h,?_⟩
 show (Av 1).length≤k
 exact Nat.le_trans (EK (k:=1) (by simp only [BB,Nat.pow_one];omega)) hk
theorem TY {x : Int} (h0:-1000000≤x) (h1:x≤1000000):RSz ((x:Int):Rat) 1:=ZL 1 (by omega) (by simp only [BB,Nat.pow_one];omega)
theorem TX {x : Int} (h0:-9223372036854775808≤x) (h1:x≤9223372036854775807):RSz ((x:Int):Rat) 2:=ZL 2 (by omega) (by simp only [BB,Nat.reducePow];omega)
theorem De {x : Int} (h0:-1000000≤x) (h1:x≤1000000):(Av x.natAbs).length≤1:=EK (by simp only [BB,Nat.pow_one];omega)
def Nw (F : Nat→Rat):Nat→Nat
 | 0=>0
 | n+1=>if F n = 0 then Nw F n else n+1
theorem JJ (F : Nat→Rat):∀ n,Nw F n≤n
 | 0=>Nat.le_refl 0
 | n+1=>by
  rw [Nw]
  split
  ·exact Nat.le_succ_of_le (JJ F n)
  ·exact Nat.le_refl _
abbrev upO (g : Nat) (F:Nat→Rat) (n:Nat):Ow:=.obj (Bk [⟨g,71,flF (CL F) n⟩])
theorem Lt (F : Nat→Rat) (n N g c:Nat) (hn:n≤N) (hc:n≤c) (hN:N≤100000):Con Tryz.prog 115 [.d (sX g n c)] [upO g F N] [] (fun r hp'=>r = .d (sX g (Nw F n) c)∧hp' = [upO g F N,.dead]):=by
 refine Bt Tryz.func115 rfl (As Tryz.func115 (by kernel_rfl) (by kernel_rfl)) rfl fun s0 pv0=>?_
 rw [Tryz.ntmps115]
 refine Y1<|Wa<|Y0<|Y1<|Wm ?_;refine Wq (Do (ao rfl) (Aa rfl)) ?_;refine Wa<|Y0<|Ac<|AWp.block ?_
 refine AO (fun mz σ=>∃ m,m≤n∧Nw F m = Nw F n∧mz = m∧σ = ⟨[(0,.d (sX g n c)),(3,.d (ex (.int .i64 (m:Nat))))],[upO g F N,.pin [(pv0,.own 0)]]⟩) ?le ⟨n,Nat.le_refl n,rfl,rfl,rfl⟩ ?round
 case le=>exact Aj (by exact Yd<|Yd<|FrLe.nil) (by exact HpLe.cons (OwLe.obj rfl)<|HpLe.cons (Ba rfl)<|HpLe.nil)
 case round =>
  rintro m _ ⟨_,hm,htr,rfl,rfl⟩
  by_cases h0:m = 0
  ·subst h0
   have hk0:(0:Nat)≤n:=Nat.zero_le n
   refine Ac<|Y1<|Wm ?_;refine Wq Ar ?_;refine Wm ?_;refine Ws ?_;refine Ws ?_;refine Ws ?_;refine Ws ?_;refine Ws ?_;refine Ws ?_;refine Ws ?_;refine Wq Bi ?_;apply Y0;refine Cf ?_;apply AK;apply AA;apply AB;apply AC;refine Yn<|Y1<|Wm<|Wm ?_;refine Wq (KQ (k:=0) (ao rfl) (ao rfl) (Aa rfl) (Aa rfl) hk0 hc) ?_;refine Wa<|Y0 ?_;apply Aw
   refine Bj (RetsA.one rfl) rfl ?_ rfl
   exact ⟨by rw [← htr];rfl,rfl⟩
  ·have hm1 : m - 1 < N := by omega
   have hm2:m - 1<n:=by omega
   by_cases hz:F (m - 1) = 0
   ·have hs:(F (m - 1)).num.sign = 0:=DL.2 hz
    refine Ac<|Y1<|Wm ?_;refine Wq Am ?_;refine Wm ?_;refine Wg Af ?_;refine Wg Af ?_;refine Wg Er ?_;refine Wg (CA (k:=m - 1) (ao rfl) (ao rfl) (Aa rfl) (Aa rfl) hm2) ?_;refine Wg (KR (e:=⟨g,71,flF (CL F) N⟩) 0 0 (ao rfl) rfl rfl (Aa rfl) rfl (PartAt.flF (EM _) hm1)) ?_;refine Wg (Ak (Ez (F (m - 1)))) ?_;refine Wg Am ?_;refine Wq AN ?_;apply Y0;refine Ct ?_;refine Ys<|AWp.block<|AWp.region<|Wm ?_;refine Wq Er ?_;refine Wa ?_;apply AWl.nil;apply Aq
    have htr':Nw F (m - 1) = Nw F n:=by
     rw [← htr]
     obtain ⟨q,rfl⟩:∃ q,m = q+1:=⟨m - 1,by omega⟩
     have hz':F q = 0:=hz
     rw [show q+1 - 1 = q from rfl,Nw,if_pos hz']
    refine ALoop.next (m - 1) (by omega) ⟨m - 1,by omega,htr',rfl,rfl⟩ ?_
    exact Aj (by exact Yd<|Yd<|FrLe.nil) (by exact HpLe.cons (OwLe.obj rfl)<|HpLe.cons (Ba rfl)<|HpLe.nil)
   ·have hs:¬ (F (m - 1)).num.sign = 0:=fun h=>hz (DL.1 h)
    refine Ac<|Y1<|Wm ?_;refine Wq Am ?_;refine Wm ?_;refine Wg Af ?_;refine Wg Af ?_;refine Wg Er ?_;refine Wg (CA (k:=m - 1) (ao rfl) (ao rfl) (Aa rfl) (Aa rfl) hm2) ?_;refine Wg (KR (e:=⟨g,71,flF (CL F) N⟩) 0 0 (ao rfl) rfl rfl (Aa rfl) rfl (PartAt.flF (EM _) hm1)) ?_;refine Wg (Ak (Ez (F (m - 1)))) ?_;refine Wg Ar ?_;refine Wq AN ?_;apply Y0;refine Cf ?_;apply AK;apply AA;apply AB;apply AC;refine Yn<|Y1<|Wm<|Wm ?_;refine Wq (KQ (k:=m) (ao rfl) (ao rfl) (Aa rfl) (Aa rfl) hm hc) ?_;refine Wa<|Y0 ?_;apply Aw
    have htr':Nw F m = m:=by
     obtain ⟨q,rfl⟩:∃ q,m = q+1:=⟨m - 1,by omega⟩
     have hz':¬ F q = 0:=hz
     rw [Nw,if_neg hz']
    refine Bj (RetsA.one rfl) rfl ?_ rfl
    exact ⟨by rw [← htr,htr'],rfl⟩
def Jm (F G:Nat→Rat) (k:Nat):Nat→Nat→Rat
 | 0=>fun _=>q0
 | i+1=>EF (Jm F G k i) (F i) G i k
theorem RL {H G:Nat→Rat} {c:Rat} {S1 S2 S3 k i:Nat} (hH:∀ j,RSz (H j) S1) (hc:RSz c S2) (hG:∀ j,RSz (G j) S3) (j:Nat):RSz (EF H c G k i j) (S1+(S2+S3)+1):=by
 unfold EF
 split
 ·exact (hH j).add (hc.mul (hG _))
 ·exact (hH j).mono (by omega)
theorem MI {F G:Nat→Rat} {k S2 S3:Nat} (hF:∀ j,RSz (F j) S2) (hG:∀ j,RSz (G j) S3):∀ i j,RSz (Jm F G k i j) (1+i*(S2+S3+1))
 | 0,j=>by
  rw [Nat.zero_mul]
  exact TY (x:=0) (by omega) (by omega)
 | i+1,j=>by
  have:=RL (k:=i) (i:=k) (MI (k:=k) hF hG i) (hF i) hG j
  refine RSz.mono this ?_
  rw [Nat.succ_mul]
  omega
theorem TK {s : GS} {g c n N:Nat} {F:Nat→Rat} (h:Hset s ⟨g,71,flF (CL F) N⟩) (hn:n≤N) (hc:n≤c) (hc':c≤9223372036854775807) {v:Value} (hv:(sX g n c).rel s v):(DU n F).rel s v:=by
 obtain rfl:v = .slice (some ⟨g,0,none⟩) n c:=hv
 exact Xu h (EM F) hn hc hc'
theorem Ut (m k:Nat) (F G:Nat→Rat) (h:m = 0∨k = 0) (hm:m≤1000) (hk:k≤1000):Abs Tryz.prog 63 [DU m F,DU k G] (DU 0 F):=by
 by_cases h0:m = 0
 ·subst h0
  refine Ab Tryz.func63 fun s0=>?_
  rw [Tryz.ntmps63]
  refine Y1<|Wa<|Y0<|Ac<|Y1<|Wm ?_;refine Wq (DG (F:=CL F) rfl (Aa rfl)) ?_;refine Wq Am ?_;refine Wm ?_;refine Ws ?_;refine Ws ?_;refine Ws ?_;refine Wq AN ?_;apply Y0;refine Ct ?_;refine Y1<|Wa<|Y0 ?_;apply Aw;apply Bb
  exact BZ (Rets.of1 (ResV.tmp rfl rfl) (EB))
 ·obtain rfl : k = 0 := by omega
  have h1:¬ ((m:Nat):Int) = 0:=by omega
  refine Ab Tryz.func63 fun s0=>?_
  rw [Tryz.ntmps63]
  refine Y1<|Wa<|Y0<|Ac<|Y1<|Wm ?_;refine Wq (DG (F:=CL F) rfl (Aa rfl)) ?_;refine Wq Ar ?_;refine Wm ?_;refine Wg Af ?_;refine Wg (DG (F:=CL G) rfl (Aa rfl)) ?_;refine Wg Am ?_;refine Wq Bi ?_;apply Y0;refine Ct ?_;refine Y1<|Wa<|Y0 ?_;apply Aw;apply Bb
  exact BZ (Rets.of1 (ResV.tmp rfl rfl) (EB))
theorem Uu (m k S2 S3:Nat) (F G:Nat→Rat) (hm0:0<m) (hk0:0<k) (hm:m≤1000) (hk:k≤1000) (hF:∀ j,RSz (F j) S2) (hG:∀ j,RSz (G j) S3) (hS:1+m*(S2+S3+1)≤4398046511104):Abs Tryz.prog 63 [DU m F,DU k G] (DU (Nw (Jm F G k m) (m+k - 1)) (Jm F G k m)):=by
 have h1:¬ ((m:Nat):Int) = 0:=by omega
 have h2:¬ ((k:Nat):Int) = 0:=by omega
 have hN:m+k - 1≤100000:=by omega
 refine Ab Tryz.func63 fun s0=>?_
 rw [Tryz.ntmps63]
 refine Y1<|Wa<|Y0<|Ac<|Y1<|Wm ?_;refine Wq (DG (F:=CL F) rfl (Aa rfl)) ?_;refine Wq Ar ?_;refine Wm ?_;refine Wg Af ?_;refine Wg (DG (F:=CL G) rfl (Aa rfl)) ?_;refine Wg Ar ?_;refine Wq Bi ?_;apply Y0;refine Cf ?_;refine Ys<|Y1<|Wm ?_;refine Wq (DG (F:=CL F) rfl (Aa rfl)) ?_;refine Wm ?_;refine Wq (DG (F:=CL G) rfl (Aa rfl)) ?_;refine Wq EX ?_;refine Wq Er ?_
 refine Bc [] [] (JE (m+k - 1) hN) (.inl rfl) rfl rfl (.inl ⟨rfl,rfl⟩) (by repeat (first | exact ArgsC.nil | refine ArgsC.d rfl (D.le.refl _) ?_ | refine AT rfl rfl ?_)) (by decide) SelR.nil trivial rfl ?_
 rintro _ _ ⟨g,rfl,rfl⟩
 refine ⟨_,_,_,(by first | exact AVRen.d | exact AVRen.own rfl | exact AVRen.ptr rfl | exact AVRen.fn rfl),(by repeat (first | exact SetR.nil | (apply SetR.cons;(first | exact OwRen.dead | exact Ah | exact OwRen.obj | exact Ao | exact Ai rfl);exact rfl))),(by repeat (first | exact AppR.nil | (apply AppR.cons;(first | exact OwRen.dead | exact Ah | exact OwRen.obj | exact Ao | exact Ai rfl);exact rfl))),?_⟩
 try simp only [AU,Bg]
 refine Wa<|Y0<|Ac<|Y1<|Wm ?_;refine Wq (DG (F:=CL F) rfl (Aa rfl)) ?_;refine Wm<|Y0<|AWp.block ?_
 refine AO (fun mz σ=>∃ i,i≤m∧mz = m - i∧σ = ⟨[(1,.d (DU k G)),(5,.d (sX g (m+k - 1) (m+k - 1))),(23,.d (DU m F)),(24,.d (ex (.int .i64 (m:Nat)))),(25,.d (ex (.int .i64 (i:Nat))))],[.dead,upO g (Jm F G k i) (m+k - 1)]⟩) ?lei ⟨0,by omega,rfl,rfl⟩ ?roundi
 case lei=>exact Aj (by exact Yd<|Yd<|Yd<|Yd<|Yd<|FrLe.nil) (by exact HpLe.cons (OwLe.dead)<|HpLe.cons (OwLe.obj rfl)<|HpLe.nil)
 case roundi =>
  rintro mz _ ⟨i,hi,rfl,rfl⟩
  by_cases hlti:i<m
  ·have hi:(i+1)*(S2+S3+1)≤m*(S2+S3+1):=Nat.mul_le_mul_right _ hlti
   rw [Nat.succ_mul] at hi
   apply Y1;refine Wq Am ?_;refine Y0<|Ac ?_;refine Ct ?_;refine Ys<|Ac<|AWp.block<|Y1<|Wm ?_;refine Wq (Nn (F:=CL F) (k:=i) rfl (ao rfl) (Aa rfl) (Aa rfl) rfl hlti) ?_;refine Wq Bw ?_;refine Al ?_;refine Wa ?_;refine Sf ?_;refine Y0<|AWp.region<|Wm ?_;refine Wq AQ ?_;refine Wm<|Wm ?_
   refine Bc [1] [] (OV g (m+k - 1) (m+k - 1) k i (1+i*(S2+S3+1)) S2 S3 (Jm F G k i) G (F i) (MI hF hG i) (hF i) hG (by omega) (by omega) hN) (by first | exact Or.inl rfl | exact Or.inr ⟨by decide,rfl,by repeat (first | exact AvoidR.nil | refine AF rfl ?_ | refine AvoidR.dead ?_ | refine AJ ?_ | refine AvoidR.obj ?_ | refine AD ?_ | refine AE rfl ?_ | refine AvoidR.pin rfl ?_)⟩) rfl rfl (by first | exact .inl ⟨rfl,rfl⟩ | exact .inr ⟨rfl,rfl⟩) (by repeat (first | exact ArgsC.nil | refine ArgsC.d rfl (D.le.refl _) ?_ | refine AT rfl rfl ?_)) (by decide) (by repeat (first | exact SelR.nil | refine SelR.var rfl ?_ | refine SelR.obj rfl ?_ | refine AZ rfl ?_ | refine AR rfl rfl rfl ?_)) (by repeat (first | exact trivial | refine ⟨⟨_,_,rfl⟩,?_⟩)) rfl ?_
   rintro _ _ ⟨rfl,rfl⟩
   refine ⟨_,_,_,(by first | exact AVRen.d | exact AVRen.own rfl | exact AVRen.ptr rfl | exact AVRen.fn rfl),(by repeat (first | exact SetR.nil | (apply SetR.cons;(first | exact OwRen.dead | exact Ah | exact OwRen.obj | exact Ao | exact Ai rfl);exact rfl))),(by repeat (first | exact AppR.nil | (apply AppR.cons;(first | exact OwRen.dead | exact Ah | exact OwRen.obj | exact Ao | exact Ai rfl);exact rfl))),?_⟩
   try simp only [AU,Bg]
   apply AWl.nil;apply Aq;refine Yn<|AWp.region ?_;refine Wq AM ?_;refine Wm ?_;apply AWl.nil
   refine ALoop.next (m - (i+1)) (by omega) ⟨i+1,by omega,rfl,rfl⟩ ?_
   exact Aj (by exact Yd<|Yd<|Yd<|Yd<|Yd<|FrLe.nil) (by exact HpLe.cons (OwLe.dead)<|HpLe.cons (OwLe.obj rfl)<|HpLe.nil)
  ·obtain rfl : i = m := by omega
   apply Y1;refine Wq Ar ?_;refine Y0<|Ac ?_;refine Cf ?_;apply AK;apply AA;apply AB;apply AC;refine Yn<|Y1<|Wm ?_
   refine Bc [1] [] (Lt (Jm F G k i) (i+k - 1) (i+k - 1) g (i+k - 1) (Nat.le_refl _) (Nat.le_refl _) hN) (by first | exact Or.inl rfl | exact Or.inr ⟨by decide,rfl,by repeat (first | exact AvoidR.nil | refine AF rfl ?_ | refine AvoidR.dead ?_ | refine AJ ?_ | refine AvoidR.obj ?_ | refine AD ?_ | refine AE rfl ?_ | refine AvoidR.pin rfl ?_)⟩) rfl rfl (by first | exact .inl ⟨rfl,rfl⟩ | exact .inr ⟨rfl,rfl⟩) (by repeat (first | exact ArgsC.nil | refine ArgsC.d rfl (D.le.refl _) ?_ | refine AT rfl rfl ?_)) (by decide) (by repeat (first | exact SelR.nil | refine SelR.var rfl ?_ | refine SelR.obj rfl ?_ | refine AZ rfl ?_ | refine AR rfl rfl rfl ?_)) (by repeat (first | exact trivial | refine ⟨⟨_,_,rfl⟩,?_⟩)) rfl ?_
   rintro _ _ ⟨rfl,rfl⟩
   refine ⟨_,_,_,(by first | exact AVRen.d | exact AVRen.own rfl | exact AVRen.ptr rfl | exact AVRen.fn rfl),(by repeat (first | exact SetR.nil | (apply SetR.cons;(first | exact OwRen.dead | exact Ah | exact OwRen.obj | exact Ao | exact Ai rfl);exact rfl))),(by repeat (first | exact AppR.nil | (apply AppR.cons;(first | exact OwRen.dead | exact Ah | exact OwRen.obj | exact Ao | exact Ai rfl);exact rfl))),?_⟩
   try simp only [AU,Bg]
   have hle:=JJ (Jm F G k i) (i+k - 1)
   refine Dh (EY (R:=DU (Nw (Jm F G k i) (i+k - 1)) (Jm F G k i)) 1 37 rfl rfl rfl rfl fun s' hs v hv=>?_) ?_
   ·exact TK (hs _ List.mem_cons_self) hle (by omega) (by omega) hv
   refine Wa<|Y0 ?_;apply Aw
   exact Yf
def ZD (F : Nat→Rat) (n j:Nat):Rat:=if j<n then F j else q0
theorem UN {F : Nat→Rat} {n S:Nat} (h:∀ j,RSz (F j) S) (hS:1≤S) (j:Nat):RSz (ZD F n j) S:=by
 unfold ZD
 split
 ·exact h j
 ·exact RSz.mono (TY (x:=0) (by omega) (by omega)) hS
theorem YJ (F : Nat→Rat) (n N:Nat):RI n (CL F) (CL fun _=>q0) = CL (ZD F n):=by
 funext j
 unfold RI CL ZD
 split <;> rfl
abbrev q1 : Rat:=((1:Int):Rat)
def Ln (F G:Nat→Rat) (m k:Nat):Nat→Rat:=EF (ZD F m) q1 G 0 k
theorem Vl (m k S1 S3:Nat) (F G:Nat→Rat) (hm:m≤1000) (hk:k≤1000) (hF:∀ j,RSz (F j) S1) (hG:∀ j,RSz (G j) S3) (hS1:1≤S1) (hS:S1+(1+S3)+1≤4398046511104):Abs Tryz.prog 64 [DU m F,DU k G] (DU (Nw (Ln F G m k) (max m k)) (Ln F G m k)):=by
 have hN:max m k≤100000:=by omega
 have hmx:((max m k:Nat):Int) = max ((m:Nat):Int) (((k:Nat):Int)+0):=by omega
 have cz:=JE (max m k) hN
 rw [hmx] at cz
 have csh:Abs Tryz.prog 116 [DU m F,BX (CF q1),DU k G,ex (.int .i64 0)] (DU (Nw (Ln F G m k) (max m k)) (Ln F G m k)):=by
  refine Ab Tryz.func116 fun s0=>?_
  rw [Tryz.ntmps116]
  apply Y1;refine Bx ?_;refine Wa<|Y0<|Y1<|Wm ?_;refine Wq (DG (F:=CL F) rfl (Aa rfl)) ?_;refine Wm ?_;refine Wq (DG (F:=CL G) rfl (Aa rfl)) ?_;refine Wm ?_;refine Wq EX ?_;refine Wq Ql ?_
  refine Bc [] [] (cz) (.inl rfl) rfl rfl (.inl ⟨rfl,rfl⟩) (by repeat (first | exact ArgsC.nil | refine ArgsC.d rfl (D.le.refl _) ?_ | refine AT rfl rfl ?_)) (by decide) SelR.nil trivial rfl ?_
  rintro _ _ ⟨g,rfl,rfl⟩
  refine ⟨_,_,_,(by first | exact AVRen.d | exact AVRen.own rfl | exact AVRen.ptr rfl | exact AVRen.fn rfl),(by repeat (first | exact SetR.nil | (apply SetR.cons;(first | exact OwRen.dead | exact Ah | exact OwRen.obj | exact Ao | exact Ai rfl);exact rfl))),(by repeat (first | exact AppR.nil | (apply AppR.cons;(first | exact OwRen.dead | exact Ah | exact OwRen.obj | exact Ao | exact Ai rfl);exact rfl))),?_⟩
  try simp only [AU,Bg]
  refine Wa<|Y0<|Y1<|Wm<|Wm ?_;refine XD (F:=CL F) (N:=m) (len:=max m k) (G:=CL fun _=>q0) 2 0 (ao rfl) rfl rfl rfl (EM _) (EM _) (by decide) (Aa rfl) (Aa rfl) rfl rfl ?_;refine Y0<|Y1<|Wm ?_;refine Wq AQ ?_;refine Wm<|Wm ?_
  rw [YJ F m (max m k)]
  skip
  refine Bc [2] [] (OV g (max m k) (max m k) k 0 S1 1 S3 (ZD F m) G q1 (UN hF hS1) (TY (x:=1) (by omega) (by omega)) hG hS (by omega) hN) (by first | exact Or.inl rfl | exact Or.inr ⟨by decide,rfl,by repeat (first | exact AvoidR.nil | refine AF rfl ?_ | refine AvoidR.dead ?_ | refine AJ ?_ | refine AvoidR.obj ?_ | refine AD ?_ | refine AE rfl ?_ | refine AvoidR.pin rfl ?_)⟩) rfl rfl (by first | exact .inl ⟨rfl,rfl⟩ | exact .inr ⟨rfl,rfl⟩) (by repeat (first | exact ArgsC.nil | refine ArgsC.d rfl (D.le.refl _) ?_ | refine AT rfl rfl ?_)) (by decide) (by repeat (first | exact SelR.nil | refine SelR.var rfl ?_ | refine SelR.obj rfl ?_ | refine AZ rfl ?_ | refine AR rfl rfl rfl ?_)) (by repeat (first | exact trivial | refine ⟨⟨_,_,rfl⟩,?_⟩)) rfl ?_
  rintro _ _ ⟨rfl,rfl⟩
  refine ⟨_,_,_,(by first | exact AVRen.d | exact AVRen.own rfl | exact AVRen.ptr rfl | exact AVRen.fn rfl),(by repeat (first | exact SetR.nil | (apply SetR.cons;(first | exact OwRen.dead | exact Ah | exact OwRen.obj | exact Ao | exact Ai rfl);exact rfl))),(by repeat (first | exact AppR.nil | (apply AppR.cons;(first | exact OwRen.dead | exact Ah | exact OwRen.obj | exact Ao | exact Ai rfl);exact rfl))),?_⟩
  try simp only [AU,Bg]
  refine Y0<|Y1<|Wm ?_
  refine Bc [2] [] (Lt (Ln F G m k) (max m k) (max m k) g (max m k) (Nat.le_refl _) (Nat.le_refl _) hN) (by first | exact Or.inl rfl | exact Or.inr ⟨by decide,rfl,by repeat (first | exact AvoidR.nil | refine AF rfl ?_ | refine AvoidR.dead ?_ | refine AJ ?_ | refine AvoidR.obj ?_ | refine AD ?_ | refine AE rfl ?_ | refine AvoidR.pin rfl ?_)⟩) rfl rfl (by first | exact .inl ⟨rfl,rfl⟩ | exact .inr ⟨rfl,rfl⟩) (by repeat (first | exact ArgsC.nil | refine ArgsC.d rfl (D.le.refl _) ?_ | refine AT rfl rfl ?_)) (by decide) (by repeat (first | exact SelR.nil | refine SelR.var rfl ?_ | refine SelR.obj rfl ?_ | refine AZ rfl ?_ | refine AR rfl rfl rfl ?_)) (by repeat (first | exact trivial | refine ⟨⟨_,_,rfl⟩,?_⟩)) rfl ?_
  rintro _ _ ⟨rfl,rfl⟩
  refine ⟨_,_,_,(by first | exact AVRen.d | exact AVRen.own rfl | exact AVRen.ptr rfl | exact AVRen.fn rfl),(by repeat (first | exact SetR.nil | (apply SetR.cons;(first | exact OwRen.dead | exact Ah | exact OwRen.obj | exact Ao | exact Ai rfl);exact rfl))),(by repeat (first | exact AppR.nil | (apply AppR.cons;(first | exact OwRen.dead | exact Ah | exact OwRen.obj | exact Ao | exact Ai rfl);exact rfl))),?_⟩
  try simp only [AU,Bg]
  have hle:=JJ (Ln F G m k) (max m k)
  refine Dh (EY (R:=DU (Nw (Ln F G m k) (max m k)) (Ln F G m k)) 2 27 rfl rfl rfl rfl fun s' hs v hv=>?_) ?_
  ·exact TK (hs _ List.mem_cons_self) hle (by omega) (by omega) hv
  refine Wa<|Y0 ?_;apply Aw
  exact Yf
 refine Ab Tryz.func64 fun s0=>?_
 rw [Tryz.ntmps64]
 refine Y1<|Wa<|Y0<|Y1<|Wm ?_;refine Wq (Ak (IM 1 (by omega) (by omega))) ?_;refine Wm ?_;refine Wq (Ak (csh)) ?_;refine Wa<|Y0 ?_;apply Aw
 exact Yf
theorem WG (x y:Int) (hn:(Av x.natAbs).length≤4398046511104) (hn':(Av y.natAbs).length≤4398046511104) (hy:0<y):Abs Tryz.prog 109 [BX (Jn x),BX (Jn y)] (BX (CF (Rat.divInt x y))):=by
 refine Ch (As Tryz.func109 (by kernel_rfl) (by kernel_rfl)) fun s vs hok hl hv=>?_
 rw [vs2 hl]
 obtain ⟨x0,X0,n0,c0,e0,h0⟩:=II (hv 0 (by simp))
 obtain ⟨x1,X1,n1,c1,e1,h1⟩:=II (hv 1 (by simp))
 rw [e0,e1]
 exact (FY x0 x1 X0 X1 n0 c0 n1 c1 x y _ h0 h1 hn hn' hy).mono fun e w' ⟨y,y',Y,Y',m,k,m',k',he,hI,hE⟩=>⟨_,he,hE,fun s' hw hok' _ _=>by subst hw;exact Ia hok' hI⟩
theorem RR (x y:Int) (hn:(Av x.natAbs).length≤4398046511104) (hn':(Av y.natAbs).length≤4398046511104) (hy:0<y):Abs Tryz.prog 61 [BX (Jn x),BX (Jn y)] (DV [BX (CF (Rat.divInt x y)),ex (.int .i64 0)]):=by
 have hs:y.sign = 1:=Int.sign_eq_one_of_pos hy
 have cs:=Wh y
 rw [hs] at cs
 refine Ab Tryz.func61 fun s0=>?_
 rw [Tryz.ntmps61]
 apply Y1;refine Bx ?_;refine Bx ?_;refine Al ?_;refine Wa<|Y0<|Ac<|Y1 ?_;refine Wq AQ ?_;refine Wq (Ak (cs)) ?_;refine Wq Ar ?_;apply Y0;refine Cf ?_;refine Ys<|Ac<|Y1 ?_;refine Wq AQ ?_;refine Wq (Ak (cs)) ?_;refine Wq Ar ?_;apply Y0;refine Cf ?_;refine Ys<|Y1 ?_;refine Wq AQ ?_;refine Wq AQ ?_;refine Wq (Ak (WG x y hn hn' hy)) ?_;refine Sf ?_;refine Wa<|Y0 ?_;apply Aw
 exact BZ (CR (ResV.cell rfl rfl (Aa rfl) rfl rfl rfl) (ResV.tmp rfl rfl) (Cv (D.le.refl _) (D.le.refl _)))
theorem Tp (c : Rat):Abs Tryz.prog 59 [BX (CF c)] (DU (if c = 0 then 0 else 1) fun _=>c):=by
 by_cases h0:c = 0
 ·have hs:c.num.sign = 0:=DL.2 h0
  rw [if_pos h0]
  refine Ab Tryz.func59 fun s0=>?_
  rw [Tryz.ntmps59]
  apply Y1;refine Bx ?_;refine Wa<|Y0<|Ac<|Y1 ?_;refine Wq AQ ?_;refine Wq (Ak (Ez c)) ?_;refine Wq Am ?_;apply Y0;refine Ct ?_;refine Y1<|Wa<|Y0 ?_;apply Aw;apply Bb
  exact BZ (Rets.of1 (ResV.tmp rfl rfl) (EB))
 ·have hs:¬ c.num.sign = 0:=fun h=>h0 (DL.1 h)
  rw [if_neg h0]
  refine Ab Tryz.func59 fun s0=>?_
  rw [Tryz.ntmps59]
  apply Y1;refine Bx ?_;refine Wa<|Y0<|Ac<|Y1 ?_;refine Wq AQ ?_;refine Wq (Ak (Ez c)) ?_;refine Wq Ar ?_;apply Y0;refine Cf ?_;refine Ys<|Y1 ?_;refine Wq AQ ?_;refine Wq (Ds (ao rfl) (Aa rfl) (Aa rfl) rfl rfl rfl rfl rfl) ?_;refine Wa<|Y0 ?_;apply Aw
  exact Yf
def pG (t j:Nat) (k:Nat):Rat:=if k = 0 then Rat.divInt ((t:Int) - (j:Int)) (t:Int) else Rat.divInt 1 (t:Int)
def pT (c : Rat) (j:Nat):Nat→Nat × (Nat→Rat)
 | 0=>(if c = 0 then 0 else 1,fun _=>c)
 | i+1=>if (pT c j i).1 = 0 then (0,(pT c j i).2) else (Nw (Jm (pT c j i).2 (pG (i+1) j) 2 (pT c j i).1) ((pT c j i).1+1),Jm (pT c j i).2 (pG (i+1) j) 2 (pT c j i).1)
theorem NW (c : Rat) (j:Nat):∀ i,(pT c j i).1≤i+1
 | 0=>by
  show (if c = 0 then 0 else 1)≤1
  split <;> omega
 | i+1=>by
  rw [pT]
  have:=NW c j i
  split
  ·exact Nat.zero_le _
  ·exact Nat.le_trans (JJ _ _) (by omega)
def Pt : Nat→Nat
 | 0=>2
 | i+1=>1+(i+1)*(Pt i+2)
theorem TN {i : Nat} (h:i≤7):Pt i≤100000:=by
 have:i = 0∨i = 1∨i = 2∨i = 3∨i = 4∨i = 5∨i = 6∨i = 7:=by omega
 rcases this with rfl | rfl | rfl | rfl | rfl | rfl | rfl | rfl <;> decide
theorem XS (t j k:Nat) (ht:0<t) (ht2:t≤1000) (hj:j≤10000):RSz (pG t j k) 1:=by
 unfold pG
 split
 ·exact RSz.divInt (by omega) (De (by omega) (by omega)) (De (by omega) (by omega))
 ·exact RSz.divInt (by omega) (De (by omega) (by omega)) (De (by omega) (by omega))
theorem Rk {c : Rat} {j:Nat} (hc:RSz c 2) (hj:j≤10000):∀ i,i≤900→∀ k,RSz ((pT c j i).2 k) (Pt i)
 | 0,_,k=>hc
 | i+1,hi,k=>by
  have ih:=Rk hc hj i (by omega)
  have hle:=NW c j i
  rw [pT]
  split
  ·refine (ih k).mono ?_
   show Pt i≤1+(i+1)*(Pt i+2)
   have:1*(Pt i+2)≤(i+1)*(Pt i+2):=Nat.mul_le_mul_right _ (by omega)
   omega
  ·refine (MI ih (fun k => XS (i + 1) j k (by omega) (by omega) hj) _ k).mono ?_
   exact Nat.add_le_add_left (Nat.mul_le_mul_right (Pt i+2) hle) 1
def pH (q : Nat→Int) (Dg:Nat):Nat→Nat × (Nat→Rat)
 | 0=>(0,fun _=>q0)
 | j+1=>(Nw (Ln (pH q Dg j).2 (pT ((q j:Int):Rat) j (Dg - 1)).2 (pH q Dg j).1 (pT ((q j:Int):Rat) j (Dg - 1)).1) (max (pH q Dg j).1 (pT ((q j:Int):Rat) j (Dg - 1)).1),Ln (pH q Dg j).2 (pT ((q j:Int):Rat) j (Dg - 1)).2 (pH q Dg j).1 (pT ((q j:Int):Rat) j (Dg - 1)).1)
theorem XR (q : Nat→Int) {Dg:Nat} (hD:0<Dg):∀ j,(pH q Dg j).1≤Dg
 | 0=>Nat.zero_le Dg
 | j+1=>by
  have h1:=XR q hD j
  have h2:=NW ((q j:Int):Rat) j (Dg - 1)
  rw [pH]
  exact Nat.le_trans (JJ _ _) (by omega)
theorem XQ {q : Nat→Int} {Dg:Nat} (hD:Dg≤900) (hq:∀ j,RSz ((q j:Int):Rat) 2):∀ j,j≤10000→∀ k,RSz ((pH q Dg j).2 k) (1+j*(Pt (Dg - 1)+2))
 | 0,_,k=>by
  rw [Nat.zero_mul]
  exact TY (x:=0) (by omega) (by omega)
 | j+1,hj,k=>by
  have h1:=XQ hD hq j (by omega)
  have h2:=Rk (hq j) (show j≤10000 by omega) (Dg - 1) (by omega)
  rw [pH]
  refine (RL (fun t=>UN h1 (by omega) t) (TY (x:=1) (by omega) (by omega)) h2 k).mono ?_
  rw [Nat.succ_mul]
  omega
theorem Tk (l : Ae) (n:Int) (Dg M:Nat) (q:Nat→Int) (hD:0<Dg) (hD2:Dg≤8) (hM:M≤9000) (hq:∀ j,-9223372036854775808≤q j∧q j≤9223372036854775807) (ck:Abs Tryz.prog 46 [BT l,ex (.int .i64 n)] (ex (.int .i64 0))) (cd:Abs Tryz.prog 55 [BT l,ex (.int .i64 n)] (ex (.int .i64 (Dg:Nat)))) (cc:Abs Tryz.prog 58 [BT l,ex (.int .i64 n),ex (.int .i64 (Dg:Nat))] (nD M q)):Abs Tryz.prog 26 [BT l,ex (.int .i64 n)] (DV [DU (pH q Dg M).1 (pH q Dg M).2,ex (.int .i64 0)]):=by
 have hDp:¬ ((Dg:Nat):Int)≤0:=by omega
 have hqs:∀ j,RSz ((q j:Int):Rat) 2:=fun j=>TX (hq j).1 (hq j).2
 have hsz:Pt (Dg - 1)≤100000:=TN (by omega)
 refine Ab Tryz.func26 fun s0=>?_
 rw [Tryz.ntmps26]
 refine Y1<|Wa<|Wa<|Y0<|Ac<|Y1<|Wm<|Wm ?_;refine Wq (Ak (ck)) ?_;refine Wa<|Y0<|Y1<|Wm ?_;refine Wq Ar ?_;apply Y0;refine Cf ?_;refine Ys<|Y1<|Wm<|Wm ?_;refine Wq (Ak (cd)) ?_;refine Wa<|Y0<|Ac<|Y1<|Wm ?_;refine Wq Ar ?_;apply Y0;refine Cf ?_;refine Ys<|Y1<|Wa<|Y0<|Ac<|Y1<|Wm<|Wm<|Wm ?_;refine Wq (Ak (cc)) ?_;refine Wq (Fo rfl (Aa rfl)) ?_;refine Wm<|Y0<|AWp.block ?_
 refine AO (fun mz σ=>∃ j,j≤M∧mz = M - j∧σ = ⟨[(7,.d (ex (.int .i64 (Dg:Nat)))),(8,.d (DU (pH q Dg j).1 (pH q Dg j).2)),(31,.d (nD M q)),(32,.d (ex (.int .i64 (M:Nat)))),(33,.d (ex (.int .i64 (j:Nat))))],[]⟩) ?lej ⟨0,by omega,rfl,rfl⟩ ?roundj
 case lej=>exact Aj (by exact Yd<|FrLe.cons rfl (AVle.le EB)<|Yd<|Yd<|Yd<|FrLe.nil) (by exact HpLe.nil)
 case roundj =>
  rintro mz _ ⟨j,hj,rfl,rfl⟩
  by_cases hltj:j<M
  ·have hj:=hq j
   apply Y1;refine Wq Am ?_;refine Y0<|Ac ?_;refine Ct ?_;refine Ys<|Ac<|AWp.block<|Y1<|Wm ?_;refine Wq (KS (k:=j) rfl (ao rfl) (Aa rfl) (Aa rfl) rfl hltj) ?_;refine Wq Ed ?_;refine Wa<|Wa<|Y0<|Y1<|Wm ?_;refine Wq (Ak (IM (q j) hj.1 hj.2)) ?_;refine Wq (Ak (Tp ((q j:Int):Rat))) ?_;refine Wa<|Y0<|Ac<|Y1<|Wa<|Y0<|AWp.block ?_
   refine AO (fun mz σ=>∃ i,i≤Dg - 1∧mz = Dg - 1 - i∧σ = ⟨[(7,.d (ex (.int .i64 (Dg:Nat)))),(8,.d (DU (pH q Dg j).1 (pH q Dg j).2)),(9,.d (ex (.int .i64 (j:Nat)))),(11,.d (DU (pT ((q j:Int):Rat) j i).1 (pT ((q j:Int):Rat) j i).2)),(12,.d (ex (.int .i64 ((i+1:Nat):Int)))),(31,.d (nD M q)),(32,.d (ex (.int .i64 (M:Nat)))),(33,.d (ex (.int .i64 (j:Nat))))],[]⟩) ?lei ⟨0,by omega,rfl,rfl⟩ ?roundi
   case lei=>exact Aj (by exact Yd<|Yd<|Yd<|Yd<|Yd<|Yd<|Yd<|Yd<|FrLe.nil) (by exact HpLe.nil)
   case roundi =>
    rintro mz _ ⟨i,hi,rfl,rfl⟩
    by_cases hlti:i<Dg - 1
    ·have c1 : Abs Tryz.prog 61 [BX (Jn (((i + 1 : Nat) : Int) - (j : Int))), BX (Jn ((i + 1 : Nat) : Int))] (DV [BX (CF (pG (i + 1) j 0)), ex (.int .i64 0)]) := RR _ _ (Nat.le_trans (De (by omega) (by omega)) (by decide)) (Nat.le_trans (De (by omega) (by omega)) (by decide)) (by omega)
     have c2:Abs Tryz.prog 61 [BX (Jn 1),BX (Jn ((i+1:Nat):Int))] (DV [BX (CF (pG (i+1) j 1)),ex (.int .i64 0)]):=RR _ _ (Nat.le_trans (De (by omega) (by omega)) (by decide)) (Nat.le_trans (De (by omega) (by omega)) (by decide)) (by omega)
     have c3:Abs Tryz.prog 63 [DU (pT ((q j:Int):Rat) j i).1 (pT ((q j:Int):Rat) j i).2,slD 71 4 [CF (pG (i+1) j 0),CF (pG (i+1) j 1)]] (DU (pT ((q j:Int):Rat) j (i+1)).1 (pT ((q j:Int):Rat) j (i+1)).2):=by
      have hle:=NW ((q j:Int):Rat) j i
      by_cases hz:(pT ((q j:Int):Rat) j i).1 = 0
      ·rw [pT,if_pos hz]
       exact Ut _ 2 _ (pG (i+1) j) (.inl hz) (by omega) (by omega)
      ·rw [pT,if_neg hz]
       refine Uu _ 2 (Pt i) 1 _ (pG (i+1) j) (by omega) (by omega) (by omega) (by omega) (Rk (hqs j) (by omega) i (by omega)) (fun k=>XS (i+1) j k (by omega) (by omega) (by omega)) ?_
       have h1:Pt i≤100000:=TN (by omega)
       have h2:(pT ((q j:Int):Rat) j i).1*(Pt i+1+1)≤8*100002:=Nat.mul_le_mul (by omega) (by omega)
       omega
     refine Ac<|Y1<|Wm<|Wm ?_;refine Wq Am ?_;apply Y0;refine Ct ?_;refine Ys<|Ac<|AWp.block<|Y1<|Wm<|Wm ?_;refine Wq Fv ?_;refine Wq (Ak (MF (((i+1:Nat):Int) - (j:Int)) (by omega) (by omega))) ?_;refine Wm ?_;refine Wq (Ak (MF ((i+1:Nat):Int) (by omega) (by omega))) ?_;refine Wq (Ak (c1)) ?_;refine Wm ?_;refine Wq AW ?_;refine Wq AW ?_;refine Al ?_;refine Sf ?_;refine Wa<|Y0<|Y1 ?_;refine Wq (Ak (MF 1 (by omega) (by omega))) ?_;refine Wm ?_;refine Wq (Ak (MF ((i+1:Nat):Int) (by omega) (by omega))) ?_;refine Wq (Ak (c2)) ?_;refine Wm ?_;refine Wq AW ?_;refine Wq AW ?_;refine Al ?_;refine Sf ?_;refine Wa<|Y0<|AWp.region<|Wm ?_;refine Wq AQ ?_;refine Wq AQ ?_;(refine CM rfl rfl ?_;(refine DD (Aa rfl) (Aa rfl) rfl rfl rfl rfl rfl ?_;(repeat ((first | refine ⟨_,Bp (ao rfl),?_⟩ | refine ⟨_,Po rfl,?_⟩);refine ⟨_,rfl,?_⟩));refine ⟨_,rfl,?_⟩));refine Wq (Ak (c3)) ?_;refine Wa ?_;apply AWl.nil;apply Aq;refine Yn<|AWp.region<|Wm ?_;refine Wq AM ?_;refine Wa ?_;apply AWl.nil
     refine ALoop.next (Dg - 1 - (i+1)) (by omega) ⟨i+1,by omega,rfl,rfl⟩ ?_
     exact Aj (by exact Yd<|Yd<|Yd<|Yd<|Yd<|Yd<|Yd<|Yd<|FrLe.nil) (by exact HpLe.nil)
    ·obtain rfl : i = Dg - 1 := by omega
     have c4:Abs Tryz.prog 64 [DU (pH q Dg j).1 (pH q Dg j).2,DU (pT ((q j:Int):Rat) j (Dg - 1)).1 (pT ((q j:Int):Rat) j (Dg - 1)).2] (DU (pH q Dg (j+1)).1 (pH q Dg (j+1)).2):=by
      have h1:=XR q hD j
      have h2:=NW ((q j:Int):Rat) j (Dg - 1)
      have h3:j*(Pt (Dg - 1)+2)≤9000*100002:=Nat.mul_le_mul (by omega) (by omega)
      exact Vl _ _ (1+j*(Pt (Dg - 1)+2)) (Pt (Dg - 1)) _ _ (by omega) (by omega) (XQ (by omega) hqs j (by omega)) (Rk (hqs j) (by omega) _ (by omega)) (by omega) (by omega)
     refine Ac<|Y1<|Wm<|Wm ?_;refine Wq Ar ?_;apply Y0;refine Cf ?_;apply AK;apply AA;apply AB;apply AC;refine Yn<|AWp.region<|Wm<|Wm ?_;refine Wq (Ak (c4)) ?_;refine Wa ?_;apply AWl.nil;apply Aq;refine Yn<|AWp.region ?_;refine Wq AM ?_;refine Wm ?_;apply AWl.nil
     refine ALoop.next (M - (j+1)) (by omega) ⟨j+1,by omega,rfl,rfl⟩ ?_
     exact Aj (by exact Yd<|Yd<|Yd<|Yd<|Yd<|FrLe.nil) (by exact HpLe.nil)
  ·obtain rfl : j = M := by omega
   apply Y1;refine Wq Ar ?_;refine Y0<|Ac ?_;refine Cf ?_;apply AK;apply AA;apply AB;apply AC;refine Yn<|Y1<|Wm<|Wa<|Wa<|Y0 ?_;apply Aw
   exact BZ (CR (ResV.tmp rfl rfl) (ResV.tmp rfl rfl) (Cv (D.le.refl _) (D.le.refl _)))
end Go.Proofs.YtialdhnijjnpaaaGreat
