/- Part 21 of the proof of hilbertDimensions_holds. No condition. -/
import Derived.Laws.CopyOwn
import Derived.Test.YtialdhnijjnpaaaGreatQc2
import Derived.Test.YtialdhnijjnpaaaGreatQc20
set_option linter.unusedSimpArgs false
set_option linter.unusedVariables false
set_option maxRecDepth 100000
namespace Go.Proofs.YtialdhnijjnpaaaGreat
open Go.RowKit
def cpF (n : Nat) (f f0:Nat→Int) (j:Nat):Int:=if j<n then f j else f0 j
section
variable {P : Program} {s0:An} {n:Nat} {ops:Array Oper} {Q:Exit→AS→Prop} {rest:List Oper} {fr:List (Nat × AV)} {hp hp':List Ow} {ty:TypeId} {ps:String} {af:Array Edge}
theorem Yi {t t2 T m b bytes len cap N g e0:Nat} {z z':Value} {d:TypeDesc} {x y:Operand} {L:List HE} {T0:TypeId} {f f0:Nat→Int} (id i:Nat) (hx:AS.arg ⟨fr,hp⟩ x = .d (sX g len cap)) (hy:DZ hp (AS.arg ⟨fr,hp⟩ y) = some (nD N f)) (hh:hp[id]? = some (.obj (Bl L))) (hi:L[i]? = some ⟨g,T0,nC f0 len⟩) (ht:Tab P t (.slice T) m b z') (hT:Tab P T d 1 bytes z) (hs:CU hp id (.obj (Bl (L.set i ⟨g,T0,nC (cpF N f f0) len⟩))) = some hp')
  (hd:Nat.blt e0 n = true) (h:AWl P s0 n ops Q rest ⟨(e0,.d Cl) :: fr,hp'⟩):AWl P s0 n ops Q (⟨some e0,.call { callee:=.builtin .copy,args:=#[x,y],argTypes:=#[t,t2] },ty,ps,af,none⟩ :: rest) ⟨fr,hp⟩:=by
 refine AWl.step rfl fun s ρ a hst K hK=>?_
 have hx':=hst.arg x
 rw [hx] at hx'
 have e1:a.eval x = .slice (some ⟨g,0,none⟩) len cap:=hx'
 obtain ⟨A,c,e2,h3,h4,h5⟩:=BM hst.hp (hst.arg y) hy
 rw [List.length_map,List.length_range] at e2 h3 h5
 obtain ⟨g1,-⟩:=Do (hst.hp id _ hh)
 obtain ⟨hT1,hS,cs,h6,h7,h8⟩:=g1 _ (List.mem_of_getElem? hi)
 simp only [Hr] at h7 h8
 obtain ⟨ii,hii,hz0,hsize,hby⟩:=hT.info
 have hinf:(P.info? T).map (·.size) = some 1:=by rw [hii,Option.map_some,hsize]
 obtain ⟨q,hq⟩:∃ q,q = Nat.min N len:=⟨_,rfl⟩
 have hqN:q≤N:=by rw [hq];exact Nat.min_le_left _ _
 have hql:q≤len:=by rw [hq];exact Nat.min_le_right _ _
 have hql':∀ j,j<len→j<N→j<q:=fun j h1 h2=>by rw [hq];exact Nat.lt_min.2 ⟨h2,h1⟩
 obtain ⟨vs,hvl,hrun,hvs⟩:∃ vs:List Value,vs.length = q∧(execOp a.eval ⟨some e0,.call { callee:=.builtin .copy,args:=#[x,y],argTypes:=#[t,t2] },ty,ps,af,none⟩).run P s.w = .ok (.value (goInt q)) (s.w.setRow g (cs.toList.take 0 ++ vs ++ cs.toList.drop (0+vs.length)).toArray)∧∀ j,j<q→∃ u,vs[j]? = some u∧u.oneCell' = true∧u = .int .i64 (f j):=by
  by_cases h0:q = 0
  ·refine ⟨[], h0.symm, ?_, fun j hj => absurd hj (by omega)⟩
   have hrun:=run_copy_none (P:=P) s.w t t2 ty T (some ⟨g,0,none⟩) A len cap N c ht.und hinf (hq ▸ h0)
   have he:s.w.setRow g (cs.toList.take 0 ++ [] ++ cs.toList.drop (0+([]:List Value).length)).toArray = s.w:=by
    simp only [List.take_zero,List.nil_append,List.length_nil,List.drop_zero,Array.toArray_toList]
    exact setRow_self s.w g cs T0 (0,0) h6
   rw [he,h0]
   simp [execOp,resolve,invoke,builtin,e1,e2,hrun]
  ·obtain ⟨g2, p, rfl, h9⟩ := h5 (by omega)
   have hcell:∀ j,j<q→∃ u,s.w.cell? ⟨g2,p+j,none⟩ = some u∧u.oneCell' = true∧u = .int .i64 (f j):=fun j hj=>by
    obtain ⟨h10,h11⟩:=h9 j (by omega)
    have er:((List.range N).map fun i=>[ex (.int .i64 (f i))]).getD j [] = [ex (.int .i64 (f j))]:=by
     have:j<N:=by omega
     simp [this]
    rw [er] at h11
    obtain ⟨u,h12,h13,h14⟩:=h11.cell (k:=0) (by simp)
    rw [Nat.mul_one,Nat.add_zero] at h12
    exact ⟨u,h12,h13,h14⟩
   have hvl:((List.range q).map fun j=>Value.int .i64 (f j)).length = q:=by simp
   have hva:∀ j u,((List.range q).map fun j=>Value.int .i64 (f j))[j]? = some u→j<q∧u = .int .i64 (f j):=fun j u hu=>by
    rw [List.getElem?_map] at hu
    by_cases hj:j<q
    ·rw [List.getElem?_range hj] at hu
     cases hu
     exact ⟨hj,rfl⟩
    ·rw [List.getElem?_eq_none (by simpa using hj)] at hu
     cases hu
   refine ⟨(List.range q).map fun j=>.int .i64 (f j),hvl,?_,fun j hj=>⟨.int .i64 (f j),by simp [hj],rfl,rfl⟩⟩
   have hrun := run_copy_row (P := P) s.w t t2 ty T g 0 len cap ⟨g2, p, none⟩ N c cs T0 ((List.range q).map fun j => .int .i64 (f j)) ht.und hinf h6 (by rw [hvl, hq]) (fun j v hv => by
    obtain ⟨hj,rfl⟩:=hva j v hv
    obtain ⟨u,h12,_,rfl⟩:=hcell j hj
    rw [Addr.add_lit]
    exact h12) (by rw [hvl];omega) (fun v hv=>by
    obtain ⟨j,hj⟩:=List.mem_iff_getElem?.1 hv
    obtain ⟨_,rfl⟩:=hva j v hj
    rfl)
   rw [hvl] at hrun
   rw [hvl]
   simp [execOp,resolve,invoke,builtin,e1,e2,hrun]
 unfold Oper.wp
 rw [hrun]
 have hfin := EQ hst hh hi (W := s.w.setRow g (cs.toList.take 0 ++ vs ++ cs.toList.drop (0 + vs.length)).toArray) (cs' := (cs.toList.take 0 ++ vs ++ cs.toList.drop (0 + vs.length)).toArray) (ds' := nC (cpF N f f0) len) rfl rfl rfl (by simp [World.setRow]) (fun b hb => setRow_other s.w g b _ hb) (setRow_heap s.w g cs _ T0 _ h6)
  (by rw [Hr]; simp; omega) (fun k hk => by
   rw [Hr] at hk
   rw [GV (by rw [hvl];omega),RC hk]
   simp only [Nat.zero_le,true_and,Nat.zero_add,Nat.sub_zero,hvl]
   by_cases hr:k<q
   ·rw [if_pos hr]
    obtain ⟨u,y1,y2,y3⟩:=hvs k hr
    refine ⟨u,y1,y2,?_⟩
    rw [cpF,if_pos (by omega)]
    exact y3
   ·rw [if_neg hr]
    obtain ⟨u,y1,y2,y3⟩:=h8 k hk
    refine ⟨u,y1,y2,?_⟩
    rw [RC hk] at y3
    rw [cpF,if_neg (fun h=>hr (hql' k hk h))]
    exact y3) hs
 exact hK _ _ _ h ⟨_,ρ,rfl,hfin.put (GS.Le.refl _) (dst:=some e0) (fun d hd'=>by cases hd';simpa [Nat.blt_eq] using hd) (r:=.d Cl) trivial⟩
end
def flF (F : Nat→List D) (n:Nat):List D:=((List.range n).map F).flatten
def TS {α : Type} (F:Nat→α) (k:Nat) (r:α):Nat→α:=fun j=>if j = k then r else F j
theorem OI (F : Nat→List D) (n:Nat):flF F (n+1) = flF F n ++ F n:=by
 simp [flF,List.range_succ]
theorem BS {F : Nat→List D} {sz:Nat} (h:∀ j,(F j).length = sz):∀ n,(flF F n).length = n*sz
 | 0=>by rw [Nat.zero_mul];rfl
 | n+1=>by rw [OI,List.length_append,BS h n,h n,Nat.succ_mul]
theorem FW {F : Nat→List D} {sz:Nat} (h:∀ j,(F j).length = sz):∀ {n j q:Nat},j<n→q<sz→(flF F n)[j*sz+q]? = (F j)[q]?
 | n+1,j,q,hj,hq=>by
  rw [OI]
  by_cases h1:j<n
  ·have h2:(j+1)*sz≤n*sz:=Nat.mul_le_mul_right sz h1
   rw [Nat.succ_mul] at h2
   rw [List.getElem?_append_left (by rw [BS h];omega)]
   exact FW h h1 hq
  ·obtain rfl : j = n := by omega
   rw [List.getElem?_append_right (by rw [BS h];omega),BS h]
   congr 1
   omega
theorem MU {n sz i:Nat} (hi:i<n*sz):i / sz<n∧i % sz<sz∧i = i / sz*sz+i % sz:=by
 have h0:0<sz:=by
  rcases Nat.eq_zero_or_pos sz with h | h
  ·subst h;rw [Nat.mul_zero] at hi;omega
  ·exact h
 exact ⟨(Nat.div_lt_iff_lt_mul h0).2 hi,Nat.mod_lt _ h0,by rw [Nat.mul_comm];exact (Nat.div_add_mod i sz).symm⟩
theorem SS {F G:Nat→List D} {n:Nat} (h:∀ j,j<n→F j = G j):flF F n = flF G n:=by
 unfold flF
 rw [List.map_congr_left fun j hj=>h j (List.mem_range.1 hj)]
theorem PartAt.flF {F : Nat→List D} {sz n j:Nat} (h:∀ j,(F j).length = sz) (hj:j<n):PartAt (flF F n) (j*sz) sz (F j):=by
 have h2:(j+1)*sz≤n*sz:=Nat.mul_le_mul_right sz hj
 rw [Nat.succ_mul] at h2
 refine ⟨by rw [BS h];exact h2,?_⟩
 apply List.ext_getElem?
 intro q
 rw [List.getElem?_take]
 split
 ·rename_i hq
  rw [List.getElem?_drop]
  exact FW h hj hq
 ·rename_i hq
  rw [List.getElem?_eq_none (by rw [h];omega)]
theorem QV {F : Nat→List D} {sz k:Nat} {r:List D} (h:∀ j,(F j).length = sz) (hr:r.length = sz) (j:Nat):(TS F k r j).length = sz:=by
 unfold TS
 split
 ·exact hr
 ·exact h j
theorem SetAt.flF {F : Nat→List D} {sz n j:Nat} {r:List D} (h:∀ j,(F j).length = sz) (hr:r.length = sz) (hj:j<n):SetAt (flF F n) (j*sz) r (flF (TS F j r) n):=by
 have h2:(j+1)*sz≤n*sz:=Nat.mul_le_mul_right sz hj
 rw [Nat.succ_mul] at h2
 have hle:j*sz+r.length≤(Go.Proofs.YtialdhnijjnpaaaGreat.flF F n).length:=by rw [BS h,hr];exact h2
 refine ⟨hle,?_⟩
 apply List.ext_getElem?
 intro i
 by_cases hi:i<n*sz
 ·obtain ⟨h3,h4,h5⟩:=MU hi
  have e2:(Go.Proofs.YtialdhnijjnpaaaGreat.flF (TS F j r) n)[i]? = (TS F j r (i / sz))[i % sz]? := by
   conv=>lhs;rw [h5]
   exact FW (QV h hr) h3 h4
  have e3:(Go.Proofs.YtialdhnijjnpaaaGreat.flF F n)[i]? = (F (i / sz))[i % sz]? := by
   conv=>lhs;rw [h5]
   exact FW h h3 h4
  rw [e2]
  unfold Ly
  have hlt:((Go.Proofs.YtialdhnijjnpaaaGreat.flF F n).take (j*sz)).length = j*sz:=by rw [List.length_take,BS h];omega
  by_cases h6:i<j*sz
  ·rw [List.getElem?_append_left (by rw [hlt]; exact h6), List.getElem?_take, if_pos h6, e3]
   have:i / sz ≠ j:=fun e=>by rw [e] at h5;omega
   rw [TS,if_neg this]
  ·rw [List.getElem?_append_right (by rw [hlt]; omega), hlt]
   by_cases h7:i<j*sz+sz
   ·have e4 : i / sz = j := Nat.div_eq_of_lt_le (by omega) (by rw [Nat.succ_mul]; exact h7)
    rw [List.getElem?_append_left (by rw [hr];omega),TS,if_pos e4]
    congr 1
    rw [e4] at h5
    omega
   ·rw [List.getElem?_append_right (by rw [hr]; omega), List.getElem?_drop, hr, TS, if_neg (fun e => by rw [e] at h5; omega), ← e3]
    congr 1
    omega
 ·rw [List.getElem?_eq_none (by rw [Ce hle,BS h];omega),List.getElem?_eq_none (by rw [BS (QV h hr)];omega)]
def rD (T sz:Nat) (F:Nat→List D) (n:Nat):D:=slD T sz ((List.range n).map F)
theorem XW {s : GS} {b T sz n N cap:Nat} {F:Nat→List D} (h:Hset s ⟨b,T,flF F N⟩) (hF:∀ j,(F j).length = sz) (hn:n≤N) (h1:n≤cap) (h2:cap≤9223372036854775807):(rD T sz F n).rel s (.slice (some ⟨b,0,none⟩) n cap):=by
 have hr:∀ k,k<n→((List.range n).map F).getD k [] = F k:=fun k hk=>by simp [hk]
 refine h.sl rfl (by simp) h1 h2 (fun k hk=>?_) fun k j hk hj=>?_
 ·rw [hr k (by simpa using hk)]
  exact hF k
 ·have hk : k < n := by simpa using hk
  have h3:(k+1)*sz≤N*sz:=Nat.mul_le_mul_right sz (by omega)
  rw [Nat.succ_mul] at h3
  rw [hr k hk]
  refine ⟨by show k*sz+j<(flF F N).length;rw [BS hF];omega,?_⟩
  show Bw (flF F N) (k*sz+j) = _
  unfold Bw
  rw [List.getD_eq_getElem?_getD,List.getD_eq_getElem?_getD,FW hF (by omega) hj]
theorem Xo {r : List D} {n i:Nat} (hi:i<n*r.length):Bw (flF (fun _=>r) n) i = Bw r (i % r.length):=by
 obtain ⟨h3,h4,h5⟩:=MU hi
 unfold Bw
 rw [List.getD_eq_getElem?_getD,List.getD_eq_getElem?_getD]
 congr 1
 conv=>lhs;rw [h5]
 exact FW (F:=fun _=>r) (fun _=>rfl) h3 h4
section
variable {P : Program} {s0:An} {n:Nat} {ops:Array Oper} {Q:Exit→AS→Prop} {rest:List Oper} {fr:List (Nat × AV)} {hp hp':List Ow} {ty:TypeId} {ps:String} {af:Array Edge}
theorem Ye {t T m b bytes c k e sz:Nat} {z z':Value} {d:TypeDesc} {x y:Operand} {hpf:Nat→List Ow} (hx:AS.arg ⟨fr,hp⟩ x = .d (ex (.int .i64 (c:Nat)))) (hy:AS.arg ⟨fr,hp⟩ y = .d (ex (.int .i64 (c:Nat)))) (ht:Tab P t (.slice T) m b z') (hT:Tab P T d sz bytes z) (hz:z.cells.size = sz) (h0:0<sz) (hz1:Fk z.cells.toList = true) (hc:c≤1000000) (hbytes:Nat.ble bytes 65536 = true) (hT32:Nat.beq T 136 = false) (hd:Nat.blt e n = true) (hk:EP hp = some k) (hs:∀ g,CR hp (.obj (Bl [⟨g,T,flF (fun _=>z.cells.toList.map ex) c⟩])) = some (hpf g))
  (h:∀ g,AWl P s0 n ops Q rest ⟨(e,.d (sX g c c)) :: fr,hpf g⟩):AWl P s0 n ops Q (⟨some e,.makeSlice t x y,ty,ps,af,none⟩ :: rest) ⟨fr,hp⟩:=by
 refine AWl.step rfl fun s ρ a hst K hK=>?_
 have e1:a.eval x = .int .i64 (c:Nat):=St.exD hx ⟨s,ρ,rfl,hst⟩
 have e2:a.eval y = .int .i64 (c:Nat):=St.exD hy ⟨s,ρ,rfl,hst⟩
 obtain ⟨i,hi,hz0,hsize,hby⟩:=hT.info
 have hbytes:=Nat.le_of_ble_eq_true hbytes
 have hT32':=Nat.ne_of_beq_eq_false hT32
 obtain rfl:=Dl hk
 have wc:IntKind.i64.wrap ((c:Nat):Int) = c:=IntWalk.i64_in _ (by omega)
 have hprod:bytes*c≤65536*1000000:=Nat.mul_le_mul hbytes hc
 have hprod':((bytes:Int)*(c:Int))≤281474976710656:=by
  have:((bytes*c:Nat):Int)≤((65536*1000000:Nat):Int):=Int.ofNat_le.2 hprod
  rw [Int.natCast_mul] at this
  omega
 have hroom:c*bytes≤roomBytes:=by
  rw [Nat.mul_comm]
  have:roomBytes = 140737488355328:=rfl
  omega
 obtain ⟨arr,harr,harr2,hrun⟩:∃ arr:Array Value,arr.size = c*sz∧(∀ k,k<c*sz→arr[k]? = z.cells[k % sz]?)∧(execOp a.eval ⟨some e,.makeSlice t x y,ty,ps,af,none⟩).run P s.w = .ok (.value (.slice (some ⟨s.w.heap.size,0,none⟩) c c)) (s.w.alloc (.cells arr T)):=by
  have hn:∀ arr,(newRow T arr).run P s.w = .ok ⟨s.w.heap.size,0,none⟩ (s.w.alloc (.cells arr T)):=fun _=>rfl
  have h281:¬ (281474976710656<(bytes:Int)*(c:Int)):=by omega
  have hroom':¬ (roomBytes<c*bytes):=by omega
  have hkn:¬ ((c:Int)<0):=by omega
  by_cases hk0:c = 0
  ·subst hk0
   refine ⟨(Array.range (0*sz)).map (fun j=>(#[]:Array Value)[j % 0]!),by simp,fun k hk=>by rw [Nat.zero_mul] at hk;omega,?_⟩
   simp [execOp,e1,e2,Instr.makeSlice,run_underlying ht.und,asInt,asIntOf,typeInfo,hi,hby,askRoom,hT.run_size,hn,sizeOf,hsize,show IntKind.i64.wrap 0 = 0 from rfl]
  ·have hnz:¬ (c*sz = 0):=fun h=>by
    rcases Nat.mul_eq_zero.1 h with h | h <;> omega
   have hsz0:¬ (sz = 0):=by omega
   refine ⟨(Array.range (c * sz)).map (fun j => z.cells[j % z.cells.size]!), by simp, fun k hk => by
    have:k % sz<z.cells.size:=by rw [hz];exact Nat.mod_lt _ h0
    simp [hk,hz,getElem!_def,Array.getElem?_eq_getElem this],?_⟩
   simp [execOp,e1,e2,Instr.makeSlice,run_underlying ht.und,asInt,asIntOf,typeInfo,hi,hby,wc,h281,askRoom,hroom',sizeOf,hsize,hnz,hk0,hsz0,zeroValue,hz0,hn,hkn]
 unfold Oper.wp
 rw [hrun]
 have hrl:(z.cells.toList.map ex).length = sz:=by rw [List.length_map,Array.length_toList,hz]
 have hfin := hst.new (s.le_mk' arr T 0 hT32') (dst := some e) (fun d hd' => by cases hd'; simpa [Nat.blt_eq] using hd) (v := .slice (some ⟨s.w.heap.size, 0, none⟩) c c) (u := undef) (r := .d (sX s.w.heap.size c c)) (ow := .obj (Bl [⟨s.w.heap.size, T, flF (fun _ => z.cells.toList.map ex) c⟩])) rfl
  (by
   refine ⟨fun x hx=>?_,by simp⟩
   rw [List.mem_singleton.1 hx]
   refine ⟨hT32',fun k hk=>?_,arr,heap_alloc_new s.w _,by rw [BS (fun _=>hrl),harr];exact Nat.le_refl _,fun k hk=>?_⟩
   ·exact absurd (hst.ok.lt _ _ hk) (Nat.lt_irrefl _)
   ·have hk : k < c * sz := by rw [BS (fun _ => hrl)] at hk; exact hk
    have hm:k % sz<z.cells.size:=by rw [hz];exact Nat.mod_lt _ h0
    refine ⟨z.cells[k % sz],(harr2 k hk).trans (Array.getElem?_eq_getElem hm),List.all_eq_true.1 hz1 z.cells[k % sz] (by simp),?_⟩
    rw [Xo (by rw [hrl];exact hk),hrl]
    have:Bw (z.cells.toList.map ex) (k % sz) = ex z.cells[k % sz]:=by
     unfold Bw
     rw [List.getD_eq_getElem?_getD,List.getElem?_map,Array.getElem?_toList,Array.getElem?_eq_getElem hm]
     rfl
    rw [this]
    exact rfl)
  (fun b hb=>by
   obtain ⟨x,hx,rfl⟩:=hb
   rw [List.mem_singleton.1 hx]
   exact Nat.le_refl _)
 have hg:=h s.w.heap.size
 rw [Cq (hs s.w.heap.size)] at hg
 exact hK _ _ _ hg ⟨_,_,rfl,hfin⟩
theorem Sz (P : Program) (w:World) (dT sT ty elem:TypeId) (g dLen dCap sz:Nat) (a:Addr) (sLen sCap:Nat) (cur:Array Value) (t:TypeId) (cs:List Value)
  (hu:P.underlying dT = some (.slice elem)) (hs:(P.info? elem).map (·.size) = some sz)
  (hg:w.heap[g]? = some (.cells cur t (0,0))) (hn:cs.length = Nat.min sLen dLen*sz)
  (hsrc:∀ j v,cs[j]? = some v→w.cell? (a.add j) = some v) (hfit:0+cs.length≤cur.size) (h1:∀ v∈cs,v.oneCell' = true) :
  (Builtin.copy_ #[dT,sT] ty #[.slice (some ⟨g,0,none⟩) dLen dCap,.slice (some a) sLen sCap]).run P w =
   .ok (goInt (Nat.min sLen dLen)) (w.setRow g (cur.toList.take 0 ++ cs ++ cur.toList.drop (0+cs.length)).toArray):=by
 have hl:=run_loadCells_list (P:=P) w a cs hsrc
 rw [hn] at hl
 have hst:=run_storeCells_at P g 0 t cs 0 cur w hg (by simpa using hfit) h1
 cases hq:P.info? elem with
 | none=>simp [hq] at hs
 | some i =>
  have hi:i.size = sz:=by simpa [hq] using hs
  simp [Builtin.copy_,run_underlying hu,Builtin.lenOf,Builtin.firstCells,sizeOf,typeInfo,hq,hi,hl,hst]
theorem JW (P : Program) (w:World) (dT sT ty elem:TypeId) (d a:Option Addr) (dLen dCap sLen sCap sz:Nat) (hu:P.underlying dT = some (.slice elem)) (hs:(P.info? elem).map (·.size) = some sz) (hn:Nat.min sLen dLen = 0) :
  (Builtin.copy_ #[dT,sT] ty #[.slice d dLen dCap,.slice a sLen sCap]).run P w = .ok (goInt 0) w:=by
 cases hq:P.info? elem with
 | none=>simp [hq] at hs
 | some i =>
  have hl:∀ (x:Addr),(loadCells x 0).run P w = .ok #[] w:=fun x=>by simpa using run_loadCells_list (P:=P) w x [] (by simp)
  cases d <;> cases a <;> simp [Builtin.copy_,run_underlying hu,Builtin.lenOf,Builtin.firstCells,sizeOf,typeInfo,hq,hn,storeCells,hl]
def RV (n : Nat) (F G:Nat→List D) (j:Nat):List D:=if j<n then F j else G j
theorem Yh {t t2 T m b bytes len cap N g e0 sz T2:Nat} {z z':Value} {d:TypeDesc} {x y:Operand} {L:List HE} {T0:TypeId} {F G:Nat→List D} (id i:Nat) (hx:AS.arg ⟨fr,hp⟩ x = .d (sX g len cap)) (hy:DZ hp (AS.arg ⟨fr,hp⟩ y) = some (rD T2 sz F N)) (hh:hp[id]? = some (.obj (Bl L))) (hi:L[i]? = some ⟨g,T0,flF G len⟩) (hG:∀ j,(G j).length = sz) (hF:∀ j,(F j).length = sz) (h00:0<sz) (ht:Tab P t (.slice T) m b z') (hT:Tab P T d sz bytes z) (hs:CU hp id (.obj (Bl (L.set i ⟨g,T0,flF (RV N F G) len⟩))) = some hp')
  (hd:Nat.blt e0 n = true) (h:AWl P s0 n ops Q rest ⟨(e0,.d Cl) :: fr,hp'⟩):AWl P s0 n ops Q (⟨some e0,.call { callee:=.builtin .copy,args:=#[x,y],argTypes:=#[t,t2] },ty,ps,af,none⟩ :: rest) ⟨fr,hp⟩:=by
 refine AWl.step rfl fun s ρ a hst K hK=>?_
 have hx':=hst.arg x
 rw [hx] at hx'
 have e1:a.eval x = .slice (some ⟨g,0,none⟩) len cap:=hx'
 obtain ⟨A,c,e2,h3,h4,h5⟩:=BM hst.hp (hst.arg y) hy
 rw [List.length_map,List.length_range] at e2 h3 h5
 obtain ⟨g1,-⟩:=Do (hst.hp id _ hh)
 obtain ⟨hT1,hS,cs,h6,h7,h8⟩:=g1 _ (List.mem_of_getElem? hi)
 simp only [BS hG] at h7 h8
 obtain ⟨ii,hii,hz0,hsize,hby⟩:=hT.info
 have hinf:(P.info? T).map (·.size) = some sz:=by rw [hii,Option.map_some,hsize]
 have hCl:∀ j,(RV N F G j).length = sz:=fun j=>by
  unfold RV
  split
  ·exact hF j
  ·exact hG j
 obtain ⟨q,hq⟩:∃ q,q = Nat.min N len:=⟨_,rfl⟩
 have hqN:q≤N:=by rw [hq];exact Nat.min_le_left _ _
 have hql:q≤len:=by rw [hq];exact Nat.min_le_right _ _
 have hql':∀ j,j<len→j<N→j<q:=fun j h1 h2=>by rw [hq];exact Nat.lt_min.2 ⟨h2,h1⟩
 have hqs:q*sz≤len*sz:=Nat.mul_le_mul_right sz hql
 obtain ⟨vs,hvl,hrun,hvs⟩:∃ vs:List Value,vs.length = q*sz∧(execOp a.eval ⟨some e0,.call { callee:=.builtin .copy,args:=#[x,y],argTypes:=#[t,t2] },ty,ps,af,none⟩).run P s.w = .ok (.value (goInt q)) (s.w.setRow g (cs.toList.take 0 ++ vs ++ cs.toList.drop (0+vs.length)).toArray)∧∀ j,j<q*sz→∃ u,vs[j]? = some u∧u.oneCell' = true∧(Bw (flF (RV N F G) len) j).rel s u:=by
  by_cases h0:q = 0
  ·refine ⟨[], by rw [h0, Nat.zero_mul]; rfl, ?_, fun j hj => absurd hj (by rw [h0, Nat.zero_mul]; omega)⟩
   have hrun:=JW P s.w t t2 ty T (some ⟨g,0,none⟩) A len cap N c sz ht.und hinf (hq ▸ h0)
   have he:s.w.setRow g (cs.toList.take 0 ++ [] ++ cs.toList.drop (0+([]:List Value).length)).toArray = s.w:=by
    simp only [List.take_zero,List.nil_append,List.length_nil,List.drop_zero,Array.toArray_toList]
    exact setRow_self s.w g cs T0 (0,0) h6
   rw [he,h0]
   simp [execOp,resolve,invoke,builtin,e1,e2,hrun]
  ·obtain ⟨g2, p, rfl, h9⟩ := h5 (by omega)
   have hcell:∀ j,j<q*sz→∃ u,s.w.cell? ⟨g2,p+j,none⟩ = some u∧u.oneCell' = true∧(Bw (flF (RV N F G) len) j).rel s u:=fun j hj=>by
    obtain ⟨k1,k2,k3⟩:=MU hj
    obtain ⟨h10,h11⟩:=h9 (j / sz) (by omega)
    have er:((List.range N).map F).getD (j / sz) [] = F (j / sz):=by
     have:j / sz<N:=by omega
     simp [this]
    rw [er] at h11
    obtain ⟨u,h12,h13,h14⟩:=h11.cell (k:=j % sz) (by rw [hF];exact k2)
    rw [Nat.add_assoc,← k3] at h12
    refine ⟨u,h12,h13,?_⟩
    have:Bw (flF (RV N F G) len) j = Bw (F (j / sz)) (j % sz):=by
     unfold Bw
     rw [List.getD_eq_getElem?_getD,List.getD_eq_getElem?_getD]
     congr 1
     conv=>lhs;rw [k3]
     rw [FW hCl (by omega) k2,RV,if_pos (by omega)]
    rw [this]
    exact h14
   obtain ⟨vf,hvf⟩:∃ vf:Nat→Value,∀ j,j<q*sz→s.w.cell? ⟨g2,p+j,none⟩ = some (vf j)∧(vf j).oneCell' = true∧(Bw (flF (RV N F G) len) j).rel s (vf j):=⟨fun j=>(s.w.cell? ⟨g2,p+j,none⟩).getD undef,fun j hj=>by
    obtain ⟨u,y1,y2,y3⟩:=hcell j hj
    have e:(s.w.cell? ⟨g2,p+j,none⟩).getD undef = u:=by rw [y1];rfl
    show s.w.cell? ⟨g2,p+j,none⟩ = some ((s.w.cell? ⟨g2,p+j,none⟩).getD undef)∧((s.w.cell? ⟨g2,p+j,none⟩).getD undef).oneCell' = true∧(Bw (flF (RV N F G) len) j).rel s ((s.w.cell? ⟨g2,p+j,none⟩).getD undef)
    rw [e]
    exact ⟨y1,y2,y3⟩⟩
   have hvl:((List.range (q*sz)).map vf).length = q*sz:=by simp
   have hva:∀ j u,((List.range (q*sz)).map vf)[j]? = some u→j<q*sz∧u = vf j:=fun j u hu=>by
    rw [List.getElem?_map] at hu
    by_cases hj:j<q*sz
    ·rw [List.getElem?_range hj] at hu
     cases hu
     exact ⟨hj,rfl⟩
    ·rw [List.getElem?_eq_none (by simpa using hj)] at hu
     cases hu
   refine ⟨(List.range (q*sz)).map vf,hvl,?_,fun j hj=>⟨vf j,by simp [hj],(hvf j hj).2⟩⟩
   have hrun := Sz P s.w t t2 ty T g len cap sz ⟨g2, p, none⟩ N c cs T0 ((List.range (q * sz)).map vf) ht.und hinf h6 (by rw [hvl, hq]) (fun j v hv => by
    obtain ⟨hj,rfl⟩:=hva j v hv
    rw [Addr.add_lit]
    exact (hvf j hj).1) (by rw [hvl];omega) (fun v hv=>by
    obtain ⟨j,hj⟩:=List.mem_iff_getElem?.1 hv
    obtain ⟨hj2,e⟩:=hva j v hj
    rw [e]
    exact (hvf j hj2).2.1)
   rw [← hq] at hrun
   simp [execOp,resolve,invoke,builtin,e1,e2,hrun]
 unfold Oper.wp
 rw [hrun]
 have hfin := EQ hst hh hi (W := s.w.setRow g (cs.toList.take 0 ++ vs ++ cs.toList.drop (0 + vs.length)).toArray) (cs' := (cs.toList.take 0 ++ vs ++ cs.toList.drop (0 + vs.length)).toArray) (ds' := flF (RV N F G) len) rfl rfl rfl (by simp [World.setRow]) (fun b hb => setRow_other s.w g b _ hb) (setRow_heap s.w g cs _ T0 _ h6)
  (by rw [BS hCl]; simp; omega) (fun k hk => by
   rw [BS hCl] at hk
   rw [GV (by rw [hvl];omega)]
   simp only [Nat.zero_le,true_and,Nat.zero_add,Nat.sub_zero,hvl]
   by_cases hr:k<q*sz
   ·rw [if_pos hr]
    exact hvs k hr
   ·rw [if_neg hr]
    obtain ⟨u,y1,y2,y3⟩:=h8 k hk
    refine ⟨u,y1,y2,?_⟩
    have k0:=MU hk
    obtain ⟨k1,k2,k3⟩:=k0
    have hge:¬ k / sz<N:=fun hlt=>by
     have:=hql' _ k1 hlt
     have h2:(k / sz+1)*sz≤q*sz:=Nat.mul_le_mul_right sz this
     rw [Nat.succ_mul] at h2
     omega
    have:Bw (flF (RV N F G) len) k = Bw (flF G len) k:=by
     unfold Bw
     rw [List.getD_eq_getElem?_getD,List.getD_eq_getElem?_getD]
     congr 1
     conv=>lhs;rw [k3]
     conv=>rhs;rw [k3]
     rw [FW hCl k1 k2,FW hG k1 k2,RV,if_neg hge]
    rw [this]
    exact y3) hs
 exact hK _ _ _ h ⟨_,ρ,rfl,hfin.put (GS.Le.refl _) (dst:=some e0) (fun d hd'=>by cases hd';simpa [Nat.blt_eq] using hd) (r:=.d Cl) trivial⟩
end
section
variable {P : Program} {hp:List Ow} {arg:Operand→AV} {dd:Option Tmp} {ty:TypeId} {ps:String} {af:Array Edge} {gd:Option (Nat × Bool)}
theorem VI {T U:TypeId} {x y:Operand} {a n:Nat} (hx:arg x = .d (ex (.int .i64 (a:Nat)))) (hy:arg y = .d (ex (.int .i64 (n:Nat)))) (hn:n≤63) (ha:a*2 ^ n≤9223372036854775807):Quiet P hp ⟨dd,.binOp .shl T x y U,ty,ps,af,gd⟩ arg (.d (ex (.int .i64 ((a*2 ^ n:Nat):Int)))):=by
 refine ⟨fun base s ρ ev hok hbs hhp h=>?_⟩
 have h1:=h x (by simp [Op.operands])
 have h2:=h y (by simp [Op.operands])
 rw [hx] at h1;rw [hy] at h2
 have e1:ev x = .int .i64 (a:Nat):=h1
 have e2:ev y = .int .i64 (n:Nat):=h2
 have hm:Min.min n IntKind.i64.bits = n:=Nat.min_eq_left (by show n≤64;omega)
 have hw:IntKind.i64.wrap ((a:Int)*2 ^ n) = ((a*2 ^ n:Nat):Int):=by
  have e:(a:Int)*2 ^ n = ((a*2 ^ n:Nat):Int):=by norm_cast
  rw [e]
  exact IntWalk.i64_in _ (by omega)
 refine Bf (v:=.int .i64 ((a*2 ^ n:Nat):Int)) ?_ ⟨GS.Le.refl s,rfl⟩
 have hneg:¬ ((n:Int)<0):=by omega
 simp [execOp,e1,e2,eqGuard,binOp,Op.shift,hneg,hm,hw]
theorem KT {T U:TypeId} {x y:Operand} {a b:Nat} (hx:arg x = .d (ex (.int .u8 (a:Nat)))) (hy:arg y = .d (ex (.int .u8 (b:Nat)))) (ha:a<256) (hb:b<256):Quiet P hp ⟨dd,.binOp .andNot T x y U,ty,ps,af,gd⟩ arg (.d (ex (.int .u8 ((a &&& (255 - b):Nat):Int)))):=by
 refine QF hx hy fun w=>?_
 have h1:(BitVec.ofInt 8 (a:Int) &&& ~~~ BitVec.ofInt 8 (b:Int)).toNat = a &&& (255 - b):=by
  rw [BitVec.toNat_and,BitVec.toNat_not,BitVec.ofInt_natCast,BitVec.ofInt_natCast,BitVec.toNat_ofNat,BitVec.toNat_ofNat,Nat.mod_eq_of_lt ha,Nat.mod_eq_of_lt hb]
 have h2:a &&& (255 - b)<256:=Nat.lt_of_le_of_lt Nat.and_le_left ha
 have h3:IntKind.u8.wrap ((a &&& (255 - b):Nat):Int) = ((a &&& (255 - b):Nat):Int):=by
  unfold IntKind.wrap
  have:(((a &&& (255 - b):Nat):Int)) % (2 ^ IntKind.u8.bits:Int) = ((a &&& (255 - b):Nat):Int):=Int.emod_eq_of_lt (by omega) (by show _<(256:Int);omega)
  simp [this,IntKind.signed]
 have h4:(BitVec.ofInt IntKind.u8.bits (a:Int) &&& ~~~ BitVec.ofInt IntKind.u8.bits (b:Int)).toNat = a &&& (255 - b):=h1
 have h5:((BitVec.ofInt IntKind.u8.bits (a:Int) &&& ~~~ BitVec.ofInt IntKind.u8.bits (b:Int)).toNat:Int) = ((a &&& (255 - b):Nat):Int):=by rw [h4]
 show Sem.run P (do eqGuard .andNot T x y (.int .u8 a) (.int .u8 b);binOp .andNot T (.int .u8 a) (.int .u8 b)) w = _
 simp only [eqGuard,binOp,Op.intBits,h5,h3]
 rfl
end
theorem A0d {a : Nat} (h:a<256):IntKind.u8.wrap (a:Int) = a:=by
 unfold IntKind.wrap
 have:((a:Int)) % (2 ^ IntKind.u8.bits:Int) = (a:Int):=Int.emod_eq_of_lt (by omega) (by show _<(256:Int);omega)
 simp [this,IntKind.signed]
theorem KS {P : Program} {hp:List Ow} {arg:Operand→AV} {dd:Option Tmp} {ty:TypeId} {ps:String} {af:Array Edge} {gd:Option (Nat × Bool)} {S T:TypeId} {x:Operand} {k:IntKind} {a:Nat} {d:TypeDesc} {n b n' b':Nat} {z z':Value} (hx:arg x = .d (ex (.int k (a:Nat)))) (hS:Tab P S d n b z) (hT:Tab P T (.int .u8) n' b' z') (h:a<256):Quiet P hp ⟨dd,.convert S T x,ty,ps,af,gd⟩ arg (.d (ex (.int .u8 (a:Nat)))):=by
 have:=Nq (dd:=dd) (ty:=ty) (ps:=ps) (af:=af) (gd:=gd) (hp:=hp) hx hS hT
 rwa [A0d h] at this
theorem Mu {y : Nat→Int} {n:Nat} (h:SupN n y):Bi y 8 / 2 ^ n = 0:=by
 refine Nat.div_eq_of_lt (Nat.lt_pow_two_of_testBit _ fun i hi=>?_)
 by_cases h8:i<8
 ·rw [FK y 8 i h8]
  have:=(h i h8).2 hi
  simp [this]
 ·refine Nat.testBit_lt_two_pow (Nat.lt_of_lt_of_le (CI y 8) (Nat.pow_le_pow_right (by decide) (by omega)))
theorem Vm (l : Ae) (n:Nat) (hn:n≤8) (hl:l.length≤12) (h1:∀ y∈l,In8 y 0 64) (h2:∀ y∈l,SupN n y):Abs Tryz.prog 46 [BG l,ex (.int .i64 (n:Nat))] (ex (.int .i64 0)):=by
 refine Th l n l.length l.length 0 hn (by omega) (Nat.le_refl _) (fun k hk=>⟨fun j hj=>?_,Mu (h2 _ (FB hk))⟩) (Nat.le_refl _) (.inr ⟨rfl,.inr ⟨hl,fun k hk=>?_,.inr ⟨rfl,rfl⟩⟩⟩)
 ·have:=h1 _ (FB hk) j hj
  omega
 ·obtain ⟨i,h3,h4,_⟩:=UE (Ba l k) 7
  rw [h4]
  exact (h1 _ (FB hk) i (by omega)).2
theorem TF (l : Ae) (n N:Nat) (f:Nat→Int) (ck:Abs Tryz.prog 46 [BG l,ex (.int .i64 (n:Nat))] (ex (.int .i64 0))) (cn:Abs Tryz.prog 47 [BG l] (nD N f)):Abs Tryz.prog 14 [BG l,ex (.int .i64 (n:Nat))] (DE [nD N f,ex (.int .i64 0)]):=by
 refine Ab Tryz.func14 fun s0=>?_
 rw [Tryz.ntmps14]
 refine Y1<|Wa<|Wa<|Y0<|Aa<|Y1<|Wm<|Wm ?_;refine Wq (Ao (ck)) ?_;refine Wa<|Y0<|Y1<|Wm ?_;refine Wq Aq ?_;apply Y0;refine Cf ?_;refine Ys<|Y1<|Wm ?_;refine Wq (Ao (cn)) ?_;refine Wa<|Wa<|Y0 ?_;apply Aw
 exact BP (CN (ResV.tmp rfl rfl) (ResV.tmp rfl rfl) (Cp (D.le.refl _) (D.le.refl _)))
theorem YP (n : Nat):List.replicate n (ex (.int .i64 0)) = nC (fun _=>0) n:=by
 unfold nC
 rw [List.map_const',List.length_range]
theorem Zk {N : Nat} {f:Nat→Int} (far:∀ i,N≤i→f i = 0):cpF N f (fun _=>0) = f:=by
 funext j
 unfold cpF
 split
 ·rfl
 ·exact (far j (by omega)).symm
theorem TI (l : Ae) (n d N:Nat) (f:Nat→Int) (B:Int) (hn:n≤8) (hd:d≤64) (ck:Abs Tryz.prog 46 [BG l,ex (.int .i64 (n:Nat))] (ex (.int .i64 0))) (cn:Abs Tryz.prog 47 [BG l] (nD N f)) (far:∀ i,N≤i→f i = 0) (hb:Bnd f d B) (hB:B*((d:Int)+1) ^ n≤9223372036854775807):Abs Tryz.prog 16 [BG l,ex (.int .i64 (n:Nat)),ex (.int .i64 (d:Nat))] (DE [ex (.int .i64 (Cv n f d)),ex (.int .i64 0)]):=by
 have hpow:∀ j,j≤n→B*((d:Int)+1) ^ j≤9223372036854775807:=fun j hj=>by
  refine Int.le_trans (Int.mul_le_mul_of_nonneg_left ?_ hb.pos) hB
  have:(d+1) ^ j≤(d+1) ^ n:=Nat.pow_le_pow_right (by omega) hj
  exact_mod_cast this
 have hadd:∀ j,j<n→∀ i,i<d→-9223372036854775808≤kS (Cv j f) i (i+1)+kS (Cv j f) i i∧kS (Cv j f) i (i+1)+kS (Cv j f) i i≤9223372036854775807:=fun j hj i hi=>by
  have h1:=hb.sumn (j+1) (i+1) (by omega)
  have h2:=hpow (j+1) (by omega)
  have h3:Cv (j+1) f (i+1) = pS (Cv j f) i+Cv j f (i+1):=rfl
  rw [MS,RN]
  omega
 have hdn:d+1≤1000000:=by omega
 refine Ab Tryz.func16 fun s0=>?_
 rw [Tryz.ntmps16]
 refine Y1<|Wa<|Wa<|Y0<|Aa<|Y1<|Wm<|Wm ?_;refine Wq (Ao (ck)) ?_;refine Wa<|Y0<|Y1<|Wm ?_;refine Wq Aq ?_;apply Y0;refine Cf ?_;refine Ys<|Aa<|Y1<|Wm ?_;refine Wq Aq ?_;refine Wm ?_;refine Wg Af ?_;refine Wg Aq ?_;refine Wq By ?_;apply Y0;refine Cf ?_;refine Ys<|Y1<|Wm ?_;refine Wq AH ?_;refine Yg (c:=d+1) (ao rfl) (ao rfl) (Ac rfl) (Ac rfl) rfl rfl hdn rfl rfl rfl rfl (fun g=>rfl) fun g=>?_;refine Wa<|Y0<|Y1<|Wm<|Wm ?_;refine Wq (Ao (cn)) ?_;refine Yi (f:=f) (N:=N) (len:=d+1) 0 0 (ao rfl) rfl rfl (congrArg (fun ds=>some (HE.mk g 3 ds)) (YP (d+1))) (Ac rfl) (Ac rfl) rfl rfl ?_;refine Y0<|Aa<|Y1<|Wm<|Wm<|Y0<|AWp.block ?_
 refine AJ (fun mz σ=>∃ k,k≤n∧mz = n - k∧σ = ⟨[(2,.d (ex (.int .i64 (d:Nat)))),(9,.d (sX g (d+1) (d+1))),(30,.d (ex (.int .i64 (n:Nat)))),(31,.d (ex (.int .i64 (k:Nat))))],[.obj (Bl [⟨g,3,nC (Cv k f) (d+1)⟩])]⟩) ?le ⟨0,by omega,rfl,rfl⟩ ?round
 case le=>exact Ag (by exact Yd<|Yd<|Yd<|Yd<|FrLe.nil) (by (refine HpLe.cons (OwLe.obj (by rw [Zk far];rfl)) ?_);exact HpLe.nil)
 case round =>
  rintro mz _ ⟨k,hk,rfl,rfl⟩
  by_cases hlt:k<n
  ·apply Y1;refine Wq Am ?_;refine Y0<|Aa ?_;refine Ct ?_;refine Ys<|Aa<|AWp.block<|Y1<|Wm<|Wm<|Y0<|AWp.block ?_
   refine AJ (fun mz σ=>∃ i,i≤d∧mz = d - i∧σ = ⟨[(2,.d (ex (.int .i64 (d:Nat)))),(9,.d (sX g (d+1) (d+1))),(30,.d (ex (.int .i64 (n:Nat)))),(31,.d (ex (.int .i64 (k:Nat)))),(33,.d (ex (.int .i64 (d:Nat)))),(34,.d (ex (.int .i64 (i:Nat))))],[.obj (Bl [⟨g,3,nC (kS (Cv k f) i) (d+1)⟩])]⟩) ?lei ⟨0,by omega,rfl,rfl⟩ ?roundi
   case lei=>exact Ag (by exact Yd<|Yd<|Yd<|Yd<|Yd<|Yd<|FrLe.nil) (by exact HpLe.cons (OwLe.obj (by rw [RL]))<|HpLe.nil)
   case roundi =>
    rintro mz _ ⟨i,hi,rfl,rfl⟩
    by_cases hlti:i<d
    ·have ha:=hadd k hlt i hlti
     have hst:SetAt (nC (kS (Cv k f) i) (d+1)) ((i+1)*1) [ex (.int .i64 (kS (Cv k f) i (i+1)+kS (Cv k f) i i))] (nC (kS (Cv k f) (i+1)) (d+1)):=RM (Cv k f) i ▸ PW (by omega)
     apply Y1;refine Wq Am ?_;refine Y0<|Aa ?_;refine Ct ?_;refine Ys<|Aa<|AWp.block<|Y1<|Wm<|Wa<|Y0 ?_
     refine Dr [[],[],[(38,1)],[(37,0),(39,2)],[(40,3)],[],[],[(42,5),(43,6)],[(44,7)],[(41,4),(45,8)],[(37,0),(39,2)]] [[],[],[1],[0,1,2],[0,1,2,3],[],[],[5,6],[5,6,7],[0,1,2,3,4,5,6,7,8],[0,1,2,3,4,5,6,7,8,9]] ?_
     refine Xq Af ?_;refine Xq Af ?_;refine Xq AH ?_;refine Xq (CB (k:=i+1) (ah rfl) (ah rfl) (Ac rfl) (Ac rfl) (by omega)) ?_;refine Xq (No (e:=⟨g,3,nC (kS (Cv k f) i) (d+1)⟩) 0 0 (ah rfl) rfl rfl (Ac rfl) rfl (Ff (by omega))) ?_;refine Xq Af ?_;refine Xq Af ?_;refine Xq (CB (k:=i) (ah rfl) (ah rfl) (Ac rfl) (Ac rfl) (by omega)) ?_;refine Xq (No (e:=⟨g,3,nC (kS (Cv k f) i) (d+1)⟩) 0 0 (ah rfl) rfl rfl (Ac rfl) rfl (Ff (by omega))) ?_;refine Xq EC ?_;refine Xq (CB (k:=i+1) (ah rfl) (ah rfl) (Ac rfl) (Ac rfl) (by omega)) ?_;refine ⟨_,rfl,?_⟩
     refine Wd (e:=⟨g,3,nC (kS (Cv k f) i) (d+1)⟩) 0 0 (ao rfl) (ao rfl) rfl rfl (Ac rfl) (Dw rfl) hst rfl ?_;apply AWl.nil;apply Ai;refine Yn<|AWp.region ?_;refine Wq AH ?_;refine Wm ?_;apply AWl.nil
     refine ALoop.next (d - (i+1)) (by omega) ⟨i+1,by omega,rfl,rfl⟩ ?_
     exact Ag (by exact Yd<|Yd<|Yd<|Yd<|Yd<|Yd<|FrLe.nil) (by exact HpLe.cons (OwLe.obj rfl)<|HpLe.nil)
    ·obtain rfl : d = i := by omega
     apply Y1;refine Wq Aq ?_;refine Y0<|Aa ?_;refine Cf ?_;apply AG;apply Az;apply AA;apply AB;apply Ai;refine Yn<|AWp.region ?_;refine Wq AH ?_;refine Wm ?_;apply AWl.nil
     refine ALoop.next (n - (k+1)) (by omega) ⟨k+1,by omega,rfl,rfl⟩ ?_
     exact Ag (by exact Yd<|Yd<|Yd<|Yd<|FrLe.nil) (by refine HpLe.cons (OwLe.obj (by rw [UD (f:=kS (Cv k f) d) (f':=Cv (k+1) f) fun t ht=>if_pos (by omega)])) ?_;exact HpLe.nil)
  ·obtain rfl : k = n := by omega
   apply Y1;refine Wq Aq ?_;refine Y0<|Aa ?_;refine Cf ?_;apply AG;apply Az;apply AA;apply AB;refine Yn<|Y1<|Wm<|Wm ?_;refine Wq (CB (k:=d) (ao rfl) (ao rfl) (Ac rfl) (Ac rfl) (by omega)) ?_;refine Wq (No (e:=⟨g,3,nC (Cv k f) (d+1)⟩) 0 0 (ao rfl) rfl rfl (Ac rfl) rfl (Ff (by omega))) ?_;refine Wa<|Wa<|Y0 ?_;apply Aw
   exact BP (CN (ResV.tmp rfl rfl) (ResV.tmp rfl rfl) (Cp (D.le.refl _) (D.le.refl _)))
def GA (a : Nat→Int) (s:Nat):Bool:=decide (((Bi a 8 &&& (255 - s):Nat):Int) = 0)
abbrev YE (s : Nat):Ow:=.var 3 [.d (ex (.int .i64 (s:Nat)))]
theorem Kj (a : Nat→Int) (s:Nat) (hs:s<256):Con Tryz.prog 101 [.d (Ca (AQ a)),.ptr 0 0] [YE s] [] (fun r hp'=>r = .d (ex (.bool (GA a s)))∧hp' = [YE s,.dead,.var 55 ((AQ a).map .d)]):=by
 have hsl:Bi a 8<256:=CI a 8
 refine Bu Tryz.func101 rfl (As Tryz.func101 (by kernel_rfl) (by kernel_rfl)) rfl fun s0 pv0=>?_
 rw [Tryz.ntmps101]
 apply Y1;refine Bx ?_;refine Wa<|Y0<|Aa ?_
 refine Dr [[],[(4,0)],[],[(6,2)],[(5,1),(7,3)],[(8,4)]] [[],[0],[],[2],[0,1,2,3],[0,1,2,3,4]] ?_
 refine Xq AU ?_;refine Xq (Ao (FO a)) ?_;refine Xq GX ?_;refine Xq (KS (a:=s) (ah rfl) (Ac rfl) (Ac rfl) hs) ?_;refine Xq (KT (a:=Bi a 8) (b:=s) (ah rfl) (ah rfl) hsl hs) ?_;refine Xq VF ?_;refine ⟨_,rfl,?_⟩
 refine Wa<|Y0 ?_;apply Aw
 refine Bk (RetsA.one rfl) rfl ?_ rfl
 exact ⟨rfl,rfl⟩
theorem QI (l : Ae) (s z:Nat) (hs:s<256) (hl:l.length≤1000) (hz:z≤l.length) (hp:∀ k,k<z→GA (Ba l k) s = false) (he:z<l.length→GA (Ba l z) s = true):Con Tryz.prog 138 [.d (BG l),.fn 101 [0]] [YE s] [] (fun r hp'=>r = .d (ex (.int .i64 (if z<l.length then (z:Nat) else -1)))∧∃ tl,hp' = YE s :: .dead :: tl∧(tl = []∨∃ a:Nat→Int,tl = [.dead,.var 55 ((AQ a).map .d)])):=by
 refine Bu Tryz.func138 rfl (As Tryz.func138 (by kernel_rfl) (by kernel_rfl)) rfl fun s0 pv0=>?_
 rw [Tryz.ntmps138]
 refine Y1<|Wa<|Y0<|Aa<|Y1<|Wm ?_;refine Wq (CS rfl rfl (Ac rfl)) ?_;refine Wm<|Y0<|AWp.block ?_
 refine AJ (fun mz σ=>∃ k,k≤z∧mz = z - k∧σ = ⟨[(0,.d (BG l)),(1,.fn 101 [0]),(6,.d (BG l)),(7,.d (ex (.int .i64 (l.length:Nat)))),(8,.d (ex (.int .i64 (k:Nat))))],[YE s,.pin [(pv0,.own 0)]]⟩) ?le ⟨0,by omega,rfl,rfl⟩ ?round
 case le=>exact Ag (by exact Yd<|FrLe.cons rfl (AVle.fn rfl)<|Yd<|Yd<|Yd<|FrLe.nil) (by exact HpLe.cons (BJ rfl)<|HpLe.cons (Bc rfl)<|HpLe.nil)
 case round =>
  rintro mz _ ⟨k,hk,rfl,rfl⟩
  by_cases hlt:k<z
  ·have hlt' : k < l.length := by omega
   have hk:=hp k hlt
   apply Y1;refine Wq Am ?_;refine Y0<|Aa ?_;refine Ct ?_;refine Ys<|Aa<|AWp.block<|Y1<|Wm<|Wa<|Y0<|Y1<|Wm<|Wm<|Wm ?_;refine Wq AN ?_;refine Wq Br ?_
   refine Be [0] [0] (Kj (Ba l k) s hs) (by first | exact Or.inl rfl | exact Or.inr ⟨by decide,rfl,by repeat (first | exact AvoidR.nil | refine AF rfl ?_ | refine AvoidR.dead ?_ | refine AM ?_ | refine AvoidR.obj ?_ | refine AD ?_ | refine AE rfl ?_ | refine AvoidR.pin rfl ?_)⟩) rfl rfl (by first | exact .inl ⟨rfl,rfl⟩ | exact .inr ⟨rfl,rfl⟩) (by repeat (first | exact ArgsC.nil | refine ArgsC.d rfl (D.le.refl _) ?_ | refine AR rfl rfl ?_)) (by decide) (by repeat (first | exact SelR.nil | refine SelR.var rfl ?_ | refine SelR.obj rfl ?_ | refine Bb rfl ?_ | refine AP rfl rfl rfl ?_)) (by repeat (first | exact trivial | refine ⟨⟨_,_,rfl⟩,?_⟩)) rfl ?_
   rintro _ _ ⟨rfl,rfl⟩
   refine ⟨_,_,_,(by first | exact AVRen.d | exact AVRen.own rfl | exact AVRen.ptr rfl | exact AVRen.fn rfl),(by repeat (first | exact SetR.nil | (apply SetR.cons;(first | exact OwRen.dead | exact Aj | exact OwRen.obj | exact Ar | exact Ak rfl);exact rfl))),(by repeat (first | exact AppR.nil | (apply AppR.cons;(first | exact OwRen.dead | exact Aj | exact OwRen.obj | exact Ar | exact Ak rfl);exact rfl))),?_⟩
   try simp only [AZ,Bh]
   rw [hk]
   apply Y0;refine Cf ?_;apply Bd;apply Ai;refine Yn<|AWp.region ?_;refine Wq AH ?_;refine Wm ?_;apply AWl.nil
   refine ALoop.next (z - (k+1)) (by omega) ⟨k+1,by omega,rfl,rfl⟩ ?_
   exact Ag (by exact Yd<|FrLe.cons rfl (AVle.fn rfl)<|Yd<|Yd<|Yd<|FrLe.nil) (by exact HpLe.cons (BJ rfl)<|HpLe.cons (Bc rfl)<|HpLe.nil)
  ·obtain rfl : k = z := by omega
   by_cases hlt:k<l.length
   ·have hk:=he hlt
    apply Y1;refine Wq Am ?_;refine Y0<|Aa ?_;refine Ct ?_;refine Ys<|Aa<|AWp.block<|Y1<|Wm<|Wa<|Y0<|Y1<|Wm<|Wm<|Wm ?_;refine Wq AN ?_;refine Wq Br ?_
    refine Be [0] [0] (Kj (Ba l k) s hs) (by first | exact Or.inl rfl | exact Or.inr ⟨by decide,rfl,by repeat (first | exact AvoidR.nil | refine AF rfl ?_ | refine AvoidR.dead ?_ | refine AM ?_ | refine AvoidR.obj ?_ | refine AD ?_ | refine AE rfl ?_ | refine AvoidR.pin rfl ?_)⟩) rfl rfl (by first | exact .inl ⟨rfl,rfl⟩ | exact .inr ⟨rfl,rfl⟩) (by repeat (first | exact ArgsC.nil | refine ArgsC.d rfl (D.le.refl _) ?_ | refine AR rfl rfl ?_)) (by decide) (by repeat (first | exact SelR.nil | refine SelR.var rfl ?_ | refine SelR.obj rfl ?_ | refine Bb rfl ?_ | refine AP rfl rfl rfl ?_)) (by repeat (first | exact trivial | refine ⟨⟨_,_,rfl⟩,?_⟩)) rfl ?_
    rintro _ _ ⟨rfl,rfl⟩
    refine ⟨_,_,_,(by first | exact AVRen.d | exact AVRen.own rfl | exact AVRen.ptr rfl | exact AVRen.fn rfl),(by repeat (first | exact SetR.nil | (apply SetR.cons;(first | exact OwRen.dead | exact Aj | exact OwRen.obj | exact Ar | exact Ak rfl);exact rfl))),(by repeat (first | exact AppR.nil | (apply AppR.cons;(first | exact OwRen.dead | exact Aj | exact OwRen.obj | exact Ar | exact Ak rfl);exact rfl))),?_⟩
    try simp only [AZ,Bh]
    rw [hk]
    apply Y0;refine Ct ?_;refine Y1<|Wm<|Wa<|Y0 ?_;apply Aw;apply BH;apply AW;apply DY;apply BH;apply AW
    refine Bk (RetsA.one rfl) rfl ?_ rfl
    exact ⟨by rw [if_pos hlt],_,rfl,.inr ⟨_,rfl⟩⟩
   ·apply Y1;refine Wq Aq ?_;refine Y0<|Aa ?_;refine Cf ?_;apply AG;apply Az;apply AA;apply AB;refine Yn<|Y1<|Wa<|Y0 ?_;apply Aw
    refine Bk (RetsA.one rfl) rfl ?_ rfl
    exact ⟨by rw [if_neg hlt],_,rfl,.inl rfl⟩
theorem Rp {e : Nat→Nat} {T:TypeId} {x:D}:Ow.ren e (.var T [.d x]) = .var T ([x].map .d):=rfl
theorem UT {m T:Nat} {u:D}:Low m (.var T [.d u]):=Low.var fun av hav m' ρ s v h=>by
 rw [List.mem_singleton.1 hav] at h ⊢
 exact h
theorem Pt {P : Program} {f:FuncId} {args:List AV} {s:Nat} {T:Nat} {u x:D} (h:Con P f args [.var T [.d u]] [] (fun r hp'=>r = .d x∧∃ tl,hp' = .var T [.d u] :: .dead :: tl)):Con P f args [.var T [.d u]] [] (fun r hp'=>r = .d x∧hp' = [.var T [.d u],.dead]) :=
 h.cut fun r hp' ⟨h1, tl, h2⟩ => ⟨x, [.var T [.d u], .dead], tl, h1, h2, by simp, fun o ho => by
  rcases List.mem_cons.1 ho with rfl | ho
  ·exact UT
  ·rw [List.mem_singleton.1 ho]
   exact Low.dead,rfl,rfl⟩
theorem Xz (p : (Nat→Int)→Bool) (l:Ae):∃ z,z≤l.length∧(∀ k,k<z→p (Ba l k) = false)∧(z<l.length→p (Ba l z) = true)∧l.any p = decide (z<l.length):=by
 induction l with
 | nil=>exact ⟨0,Nat.le_refl 0,fun k hk=>absurd hk (by omega),fun h=>absurd h (by simp),rfl⟩
 | cons a l ih =>
  cases ha:p a with
  | true=>exact ⟨0,by simp,fun k hk=>absurd hk (by omega),fun _=>ha,by simp [ha]⟩
  | false =>
   obtain ⟨z,h1,h2,h3,h4⟩:=ih
   refine ⟨z+1,by simpa using h1,fun k hk=>?_,fun h=>h3 (by simpa using h),by simp [ha,h4]⟩
   cases k with
   | zero=>exact ha
   | succ k=>exact h2 k (by omega)
theorem TK (l : Ae) (s:Nat) (hs:s<256) (hl:l.length≤1000):Con Tryz.prog 102 [.d (BG l),.fn 101 [0]] [YE s] [] (fun r hp'=>r = .d (ex (.bool (l.any (GA · s))))∧hp' = [YE s,.dead,.dead]):=by
 obtain ⟨z,h1,h2,h3,h4⟩:=Xz (GA · s) l
 rw [h4]
 have c:=(QI l s z hs hl h1 h2 h3).mono (Q':=fun r hp'=>r = .d (ex (.int .i64 (if z<l.length then (z:Nat) else -1)))∧∃ tl,hp' = YE s :: .dead :: tl) fun r hp' ⟨q1,tl,q2,_⟩=>⟨q1,tl,q2⟩
 have c:=Pt (s:=s) c
 by_cases hz:z<l.length
 ·rw [if_pos hz] at c
  rw [decide_eq_true hz]
  refine Bu Tryz.func102 rfl (As Tryz.func102 (by kernel_rfl) (by kernel_rfl)) rfl fun s0 pv0=>?_
  rw [Tryz.ntmps102]
  refine Y1<|Wa<|Y0<|Y1<|Wm<|Wm ?_
  refine Be [0] [] (c) (by first | exact Or.inl rfl | exact Or.inr ⟨by decide,rfl,by repeat (first | exact AvoidR.nil | refine AF rfl ?_ | refine AvoidR.dead ?_ | refine AM ?_ | refine AvoidR.obj ?_ | refine AD ?_ | refine AE rfl ?_ | refine AvoidR.pin rfl ?_)⟩) rfl rfl (by first | exact .inl ⟨rfl,rfl⟩ | exact .inr ⟨rfl,rfl⟩) (by repeat (first | exact ArgsC.nil | refine ArgsC.d rfl (D.le.refl _) ?_ | refine AR rfl rfl ?_)) (by decide) (by repeat (first | exact SelR.nil | refine SelR.var rfl ?_ | refine SelR.obj rfl ?_ | refine Bb rfl ?_ | refine AP rfl rfl rfl ?_)) (by repeat (first | exact trivial | refine ⟨⟨_,_,rfl⟩,?_⟩)) rfl ?_
  rintro _ _ ⟨rfl,rfl⟩
  refine ⟨_,_,_,(by first | exact AVRen.d | exact AVRen.own rfl | exact AVRen.ptr rfl | exact AVRen.fn rfl),(by repeat (first | exact SetR.nil | (apply SetR.cons;(first | exact OwRen.dead | exact Aj | exact OwRen.obj | exact Ar | exact Ak rfl);exact rfl))),(by repeat (first | exact AppR.nil | (apply AppR.cons;(first | exact OwRen.dead | exact Aj | exact OwRen.obj | exact Ar | exact Ak rfl);exact rfl))),?_⟩
  try simp only [AZ,Bh]
  refine Wq Am ?_;refine Wa<|Y0 ?_;apply Aw
  refine Bk (RetsA.one rfl) rfl ?_ rfl
  exact ⟨rfl,rfl⟩
 ·rw [if_neg hz] at c
  rw [decide_eq_false hz]
  refine Bu Tryz.func102 rfl (As Tryz.func102 (by kernel_rfl) (by kernel_rfl)) rfl fun s0 pv0=>?_
  rw [Tryz.ntmps102]
  refine Y1<|Wa<|Y0<|Y1<|Wm<|Wm ?_
  refine Be [0] [] (c) (by first | exact Or.inl rfl | exact Or.inr ⟨by decide,rfl,by repeat (first | exact AvoidR.nil | refine AF rfl ?_ | refine AvoidR.dead ?_ | refine AM ?_ | refine AvoidR.obj ?_ | refine AD ?_ | refine AE rfl ?_ | refine AvoidR.pin rfl ?_)⟩) rfl rfl (by first | exact .inl ⟨rfl,rfl⟩ | exact .inr ⟨rfl,rfl⟩) (by repeat (first | exact ArgsC.nil | refine ArgsC.d rfl (D.le.refl _) ?_ | refine AR rfl rfl ?_)) (by decide) (by repeat (first | exact SelR.nil | refine SelR.var rfl ?_ | refine SelR.obj rfl ?_ | refine Bb rfl ?_ | refine AP rfl rfl rfl ?_)) (by repeat (first | exact trivial | refine ⟨⟨_,_,rfl⟩,?_⟩)) rfl ?_
  rintro _ _ ⟨rfl,rfl⟩
  refine ⟨_,_,_,(by first | exact AVRen.d | exact AVRen.own rfl | exact AVRen.ptr rfl | exact AVRen.fn rfl),(by repeat (first | exact SetR.nil | (apply SetR.cons;(first | exact OwRen.dead | exact Aj | exact OwRen.obj | exact Ar | exact Ak rfl);exact rfl))),(by repeat (first | exact AppR.nil | (apply AppR.cons;(first | exact OwRen.dead | exact Aj | exact OwRen.obj | exact Ar | exact Ak rfl);exact rfl))),?_⟩
  try simp only [AZ,Bh]
  refine Wq Aq ?_;refine Wa<|Y0 ?_;apply Aw
  refine Bk (RetsA.one rfl) rfl ?_ rfl
  exact ⟨rfl,rfl⟩
def Nz (L : List Nat):D:=slD 5 1 (L.map fun s=>[ex (.int .u8 (s:Nat))])
def EE (l : Ae) (s:Nat):Bool := !l.any (GA · s)
def Df (l : Ae) (k:Nat):List Nat:=(List.range k).filter (EE l)
theorem GR (l : Ae) (k:Nat):Df l (k+1) = if EE l k = true then Df l k ++ [k] else Df l k:=by
 unfold Df
 rw [List.range_succ,List.filter_append,List.filter_cons]
 split <;> simp
theorem Js (l : Ae) (k:Nat):(Df l k).length≤k:=by
 have:=List.length_filter_le (EE l) (List.range k)
 rwa [List.length_range] at this
theorem QW (L : List Nat) (k:Nat):(L.map fun s=>[ex (.int .u8 ((s:Nat):Int))]) ++ [[ex (.int .u8 ((k:Nat):Int))]] = (L ++ [k]).map fun s=>[ex (.int .u8 ((s:Nat):Int))]:=by simp
theorem LS (l : Ae) (n:Nat) (hn:n≤8) (hl:l.length≤1000):Abs Tryz.prog 52 [BG l,ex (.int .i64 (n:Nat))] (Nz (Df l (2 ^ n))):=by
 have h256:2 ^ n≤256:=by
  have:=Nat.pow_le_pow_right (n:=2) (by decide) hn
  exact this
 have hsh:1*2 ^ n≤9223372036854775807:=by omega
 have e1:1*2 ^ n = 2 ^ n:=Nat.one_mul _
 refine Ab Tryz.func52 fun s0=>?_
 rw [Tryz.ntmps52]
 refine Y1<|Wa<|Y0<|Y1<|Wa<|Y0<|Aa<|Y1<|Wm ?_;refine Wq (VI (a:=1) (n:=n) (ao rfl) (ao rfl) (by omega) hsh) ?_;refine Wm<|Y0<|AWp.block ?_
 refine HG 5 5 1 rfl (by decide) (by decide) rfl rfl ?_
 rw [e1]
 generalize hN:2 ^ n = N at h256 ⊢
 refine AJ (fun mz σ=>∃ k,k≤N∧mz = N - k∧σ = ⟨[(0,.d (BG l)),(5,.own 0),(9,.d (ex (.int .i64 (N:Nat)))),(10,.d (ex (.int .i64 (k:Nat))))],[.row 5 1 ((Df l k).map fun s=>[ex (.int .u8 (s:Nat))])]⟩) ?le ⟨0,by omega,rfl,rfl⟩ ?round
 case le=>exact Ag (by exact Yd<|FrLe.cons rfl (AVle.own rfl)<|Yd<|Yd<|FrLe.nil) (by exact Yr<|HpLe.nil)
 case round =>
  rintro mz _ ⟨k,hk,rfl,rfl⟩
  by_cases hlt:k<N
  ·have hk : k < 256 := by omega
   have hle:=Js l k
   apply Y1;refine Wq Am ?_;refine Y0<|Aa ?_;refine Ct ?_;refine Ys<|Aa<|AWp.block<|Y1<|Wm ?_;refine Al ?_;refine Iq (ao rfl) (ao rfl) rfl (Ac rfl) (by first | exact Dw rfl | exact One.sl | exact Fq) rfl rfl ?_;refine Y0<|Y1 ?_;refine Wq (Fh [1] rfl) ?_;refine Wa<|Y0<|Y1<|Wm<|Wm ?_
   refine Be [1] [] (TK l k hk hl) (by first | exact Or.inl rfl | exact Or.inr ⟨by decide,rfl,by repeat (first | exact AvoidR.nil | refine AF rfl ?_ | refine AvoidR.dead ?_ | refine AM ?_ | refine AvoidR.obj ?_ | refine AD ?_ | refine AE rfl ?_ | refine AvoidR.pin rfl ?_)⟩) rfl rfl (by first | exact .inl ⟨rfl,rfl⟩ | exact .inr ⟨rfl,rfl⟩) (by repeat (first | exact ArgsC.nil | refine ArgsC.d rfl (D.le.refl _) ?_ | refine AR rfl rfl ?_)) (by decide) (by repeat (first | exact SelR.nil | refine SelR.var rfl ?_ | refine SelR.obj rfl ?_ | refine Bb rfl ?_ | refine AP rfl rfl rfl ?_)) (by repeat (first | exact trivial | refine ⟨⟨_,_,rfl⟩,?_⟩)) rfl ?_
   rintro _ _ ⟨rfl,rfl⟩
   refine ⟨_,_,_,(by first | exact AVRen.d | exact AVRen.own rfl | exact AVRen.ptr rfl | exact AVRen.fn rfl),(by repeat (first | exact SetR.nil | (apply SetR.cons;(first | exact OwRen.dead | exact Aj | exact OwRen.obj | exact Ar | exact Ak rfl);exact rfl))),(by repeat (first | exact AppR.nil | (apply AppR.cons;(first | exact OwRen.dead | exact Aj | exact OwRen.obj | exact Ar | exact Ak rfl);exact rfl))),?_⟩
   try simp only [AZ,Bh,Rp]
   cases hb:l.any (GA · k) with
   | true =>
    refine Wq DC ?_;apply Y0;refine Cf ?_;apply Bd;apply Ai;refine Yn<|AWp.region ?_;refine Wq AH ?_;refine Wm ?_;apply AWl.nil
    refine ALoop.next (N - (k+1)) (by omega) ⟨k+1,by omega,rfl,rfl⟩ ?_
    exact Ag (by exact Yd<|FrLe.cons rfl (AVle.own rfl)<|Yd<|Yd<|FrLe.nil) (by (refine HpLe.cons (Ey (by rw [GR,if_neg (by rw [EE,hb];decide)])) ?_);exact HpLe.nil)
   | false =>
    refine Wq DC ?_;apply Y0;refine Ct ?_;refine AWp.region<|Wm ?_;refine Wq BO ?_;refine Wq (KS (a:=k) (ao rfl) (Ac rfl) (Ac rfl) hk) ?_;(refine Dj rfl rfl ?_;(refine DK (Ac rfl) (Ac rfl) rfl rfl rfl rfl rfl ?_;(repeat ((first | refine ⟨_,Bz (ao rfl),?_⟩ | refine ⟨_,Po rfl,?_⟩);refine ⟨_,rfl,?_⟩));refine ⟨_,rfl,?_⟩));(refine Nw (ao rfl) rfl rfl (Ac rfl) (Ac rfl) rfl rfl (by simp [Cu];omega) (by simp [Cu];omega) rfl (by first | ((repeat (first | exact PlainHp.nil | refine PlainHp.var ?_ | refine Di ?_ | refine PlainHp.dead ?_ | refine PlainHp.obj ?_ | refine PlainHp.pin rfl ?_ | refine CQ rfl ?_));done) | fail) rfl ?_);refine Wa ?_;apply AWl.nil;apply Ai;refine Yn<|AWp.region ?_;refine Wq AH ?_;refine Wm ?_;apply AWl.nil
    refine ALoop.next (N - (k+1)) (by omega) ⟨k+1,by omega,rfl,rfl⟩ ?_
    exact Ag (by exact Yd<|FrLe.cons rfl (AVle.own rfl)<|Yd<|Yd<|FrLe.nil) (by (refine HpLe.cons (Ey (by rw [GR,if_pos (by rw [EE,hb];rfl)];exact QW _ k)) ?_);exact HpLe.nil)
  ·obtain rfl : k = N := by omega
   apply Y1;refine Wq Aq ?_;refine Y0<|Aa ?_;refine Cf ?_;apply AG;apply Az;apply AA;apply AB;refine Yn<|Y1<|Wm<|Wa<|Y0 ?_;apply Aw
   exact Yf
def DA (s : Nat):Nat:=s % 2+s / 2 % 2+s / 4 % 2+s / 8 % 2+s / 16 % 2+s / 32 % 2+s / 64 % 2+s / 128 % 2
theorem Rt (s : Nat):DA s≤8:=by
 unfold DA
 omega
section
variable {P : Program} {hp:List Ow} {arg:Operand→AV} {dd:Option Tmp} {ty:TypeId} {ps:String} {af:Array Edge} {gd:Option (Nat × Bool)}
theorem Xu {s : ByteArray} {i:Nat} {b:UInt8} (h:s.data[i]? = some b):s[i]? = some b:=by
 obtain ⟨hi,h⟩:=Array.getElem?_eq_some_iff.1 h
 have hi':i<s.size:=hi
 rw [getElem?_pos s i hi']
 exact congrArg some h
theorem VO {t : TypeId} {x y:Operand} {s:ByteArray} {κ:IntKind} {i n b:Nat} {z:Value} {u:UInt8} (hx:arg x = .d (ex (.string s))) (hy:arg y = .d (ex (.int κ (i:Nat)))) (ht:Tab P t .string n b z) (hb:s.data[i]? = some u):Quiet P hp ⟨dd,.index t x y,ty,ps,af,gd⟩ arg (.d (ex (.int .u8 u.toNat))):=by
 refine ⟨fun base w ρ ev hok hbs hhp h=>?_⟩
 have h1:=h x (by simp [Op.operands])
 have h2:=h y (by simp [Op.operands])
 rw [hx] at h1;rw [hy] at h2
 have e1:ev x = .string s:=h1
 have e2:ev y = .int κ (i:Nat):=h2
 refine Bf (v:=.int .u8 u.toNat) ?_ ⟨GS.Le.refl w,rfl⟩
 have hi:(0:Int)≤(i:Int):=by omega
 simp [execOp,e1,e2,Instr.index,asIntOf,run_underlying ht.und,Xu hb]
end
theorem WL {A : Array UInt8} (h:((List.range 256).all fun i=>A[i]? == some (UInt8.ofNat (DA i))) = true) {i:Nat} (hi:i<256):A[i]? = some (UInt8.ofNat (DA i)):=by
 have:=List.all_eq_true.1 h i (List.mem_range.2 hi)
 exact eq_of_beq this
theorem Uw (s : Nat) (hs:s<256):Abs Tryz.prog 104 [ex (.int .u8 (s:Nat))] (ex (.int .i64 (DA s:Nat))):=by
 have hp:=Rt s
 have e:(((UInt8.ofNat (DA s)).toNat:Nat):Int) = ((DA s:Nat):Int):=by
  have:(UInt8.ofNat (DA s)).toNat = DA s:=by
   rw [UInt8.toNat_ofNat']
   exact Nat.mod_eq_of_lt (by omega)
  rw [this]
 refine Ab Tryz.func104 fun s0=>?_
 rw [Tryz.ntmps104]
 refine Y1<|Wa<|Y0<|Y1<|Wm ?_;refine Wq (VO (i:=s) (u:=UInt8.ofNat (DA s)) (ao rfl) (ao rfl) (Ac rfl) (WL (by kernel_rfl) hs)) ?_;refine Wq (GZ (a:=((DA s:Nat):Int)) ((ao rfl).trans (by rw [e])) (Ac rfl) (Ac rfl) (by omega) (by omega)) ?_;refine Wa<|Y0 ?_;apply Aw
 exact Yf
def Gk (L : List Nat):Int:=L.foldl (fun d s=>max d ((DA s:Nat):Int)) (-1)
theorem It {L : List Nat} {k:Nat} (h:k<L.length):L.take (k+1) = L.take k ++ [L.getD k default]:=by
 rw [List.take_add_one,List.getElem?_eq_getElem h,List.getD_eq_getElem?_getD,List.getElem?_eq_getElem h]
 rfl
theorem LX (L : List Nat) (s:Nat):Gk (L ++ [s]) = max (Gk L) ((DA s:Nat):Int):=by
 unfold Gk
 rw [List.foldl_append]
 rfl
theorem Jv (L : List Nat):-1≤Gk L∧Gk L≤8:=by
 have:∀ (L:List Nat) (d:Int),-1≤d→d≤8→-1≤L.foldl (fun d s=>max d ((DA s:Nat):Int)) d∧L.foldl (fun d s=>max d ((DA s:Nat):Int)) d≤8:=by
  intro L
  induction L with
  | nil=>exact fun d h1 h2=>⟨h1,h2⟩
  | cons s L ih =>
   intro d h1 h2
   have:=Rt s
   exact ih (max d ((DA s:Nat):Int)) (by omega) (by omega)
 exact this L (-1) (by omega) (by omega)
theorem RO {l : Ae} {n:Nat} {s:Nat} (h:s∈Df l n):s<n:=List.mem_range.1 (List.mem_filter.1 h).1
theorem Td (l : Ae) (n:Nat) (hn:n≤8) (hl:l.length≤1000):Abs Tryz.prog 55 [BG l,ex (.int .i64 (n:Nat))] (ex (.int .i64 (Gk (Df l (2 ^ n))))):=by
 have h256:2 ^ n≤256:=by
  have:=Nat.pow_le_pow_right (n:=2) (by decide) hn
  exact this
 have ci:=LS l n hn hl
 have hL:∀ k,k<(Df l (2 ^ n)).length→(Df l (2 ^ n)).getD k default<256:=fun k hk=>by
  have:(Df l (2 ^ n)).getD k default∈Df l (2 ^ n):=by
   rw [List.getD_eq_getElem?_getD,List.getElem?_eq_getElem hk]
   exact List.getElem_mem hk
  have:=RO this
  omega
 have hlen:=Js l (2 ^ n)
 generalize Df l (2 ^ n) = L at ci hL hlen ⊢
 refine Ab Tryz.func55 fun s0=>?_
 rw [Tryz.ntmps55]
 refine Y1<|Wa<|Y0<|Y1<|Wa<|Y0<|Aa<|Y1<|Wm<|Wm ?_;refine Wq (Ao (ci)) ?_;refine Wq BD ?_;refine Wm<|Y0<|AWp.block ?_
 refine AJ (fun mz σ=>∃ k,k≤L.length∧mz = L.length - k∧σ = ⟨[(5,.d (ex (.int .i64 (Gk (L.take k))))),(10,.d (Nz L)),(11,.d (ex (.int .i64 (L.length:Nat)))),(12,.d (ex (.int .i64 (k:Nat))))],[]⟩) ?le ⟨0,by omega,rfl,rfl⟩ ?round
 case le=>exact Ag (by exact Yd<|Yd<|Yd<|Yd<|FrLe.nil) (by exact HpLe.nil)
 case round =>
  rintro mz _ ⟨k,hk,rfl,rfl⟩
  by_cases hlt:k<L.length
  ·have hk:=hL k hlt
   apply Y1;refine Wq Am ?_;refine Y0<|Aa ?_;refine Ct ?_;refine Ys<|Aa<|AWp.block<|Y1 ?_;refine Wq AN ?_;refine Wq BE ?_;refine Wa<|Y0<|AWp.region<|Wm<|Wm ?_;refine Wq (Ao (Uw (L.getD k default) hk)) ?_;refine Wq KK ?_;refine Wa ?_;apply AWl.nil;apply Ai;refine Yn<|AWp.region ?_;refine Wq AH ?_;refine Wm ?_;apply AWl.nil
   refine ALoop.next (L.length - (k+1)) (by omega) ⟨k+1,by omega,rfl,rfl⟩ ?_
   exact Ag (by exact FrLe.cons rfl (AVle.int (by rw [It hlt,LX]))<|Yd<|Yd<|Yd<|FrLe.nil) (by exact HpLe.nil)
  ·obtain rfl : k = L.length := by omega
   apply Y1;refine Wq Aq ?_;refine Y0<|Aa ?_;refine Cf ?_;apply AG;apply Az;apply AA;apply AB;refine Yn<|Y1<|Wm<|Wa<|Y0 ?_;apply Aw
   rw [List.take_length]
   exact Yf
theorem MY {s j:Nat} (hs:s<256) (hj:j<8):(255 - s).testBit j = !s.testBit j:=by
 have h:=Nat.testBit_two_pow_sub_succ (n:=8) (x:=s) (by omega) j
 rw [show 2 ^ 8 - (s+1) = 255 - s by omega] at h
 rw [h]
 simp [hj]
theorem OC {a : Nat→Int} {s:Nat} (hs:s<256):GA a s = true↔∀ j,j<8→0<a j→s.testBit j = true:=by
 unfold GA
 rw [decide_eq_true_iff]
 constructor
 ·intro h j hj ha
  have h0:Bi a 8 &&& (255 - s) = 0:=by omega
  have h1:(Bi a 8 &&& (255 - s)).testBit j = false:=by rw [h0];exact Nat.zero_testBit j
  rw [Nat.testBit_and,FK a 8 j hj,decide_eq_true ha,MY hs hj,Bool.true_and] at h1
  simpa using h1
 ·intro h
  have h0:Bi a 8 &&& (255 - s) = 0:=by
   refine Nat.eq_of_testBit_eq fun j=>?_
   rw [Nat.zero_testBit,Nat.testBit_and]
   by_cases hj:j<8
   ·rw [FK a 8 j hj,MY hs hj]
    by_cases ha:0<a j
    ·rw [h j hj ha];simp
    ·simp [ha]
   ·have : (Bi a 8).testBit j = false := Nat.testBit_lt_two_pow (Nat.lt_of_lt_of_le (CI a 8) (Nat.pow_le_pow_right (by decide) (by omega)))
    rw [this]
    rfl
  rw [h0]
  rfl
theorem Kk {l : Ae} {s:Nat} (hs:s<256):EE l s = true↔KU 8 0 l s.testBit:=by
 unfold EE KU
 rw [Bool.not_eq_true',← Bool.not_eq_true,List.any_eq_true]
 constructor
 ·intro h a ha
  have h1:¬ GA a s = true:=fun hi=>h ⟨a,ha,hi⟩
  rw [OC hs] at h1
  obtain ⟨j,h1⟩:=Classical.not_forall.1 h1
  obtain ⟨hj,h1⟩:=Classical.not_imp.1 h1
  obtain ⟨h2,h3⟩:=Classical.not_imp.1 h1
  exact ⟨j,Nat.zero_le j,by omega,by simpa using h3,h2⟩
 ·intro h ⟨a,ha,hi⟩
  obtain ⟨j,_,hj,h2,h3⟩:=h a ha
  rw [(OC hs).1 hi j (by omega) h3] at h2
  cases h2
theorem Uo {n : Nat} (hn:n≤8):2 ^ n≤256:=Nat.pow_le_pow_right (n:=2) (by decide) hn
theorem UX {l : Ae} {n s:Nat} (hn:n≤8) (hs:s<2 ^ n) (hl:∀ a∈l,SupN n a):EE l s = true↔KU n 0 l s.testBit:=by
 have h256:=Uo hn
 rw [Kk (by omega)]
 constructor
 ·intro h a ha
  obtain ⟨j,h1,h2,h3,h4⟩:=h a ha
  refine ⟨j,h1,?_,h3,h4⟩
  rcases Nat.lt_or_ge j n with h5 | h5
  ·omega
  ·have := (hl a ha j (by omega)).2 h5
   omega
 ·intro h a ha
  obtain ⟨j,h1,h2,h3,h4⟩:=h a ha
  exact ⟨j,h1,by omega,h3,h4⟩
theorem Re {S : Nat→Bool}:∀ {k i:Nat},(∀ j,i≤j→j<i+k→S j = false)→IL k i S = 0
 | 0,_,_=>rfl
 | k+1,i,h=>by
  rw [IL,h i (Nat.le_refl i) (by omega),Re fun j h1 h2=>h j (by omega) (by omega)]
  rfl
theorem Rg {S : Nat→Bool}:∀ {k i r:Nat},(∀ j,i+k≤j→j<i+k+r→S j = false)→IL (k+r) i S = IL k i S
 | 0,i,r,h=>by rw [Nat.zero_add];exact Re fun j h1 h2=>h j (by omega) (by omega)
 | k+1,i,r,h=>by
  rw [show k+1+r = (k+r)+1 by omega,IL,IL,Rg fun j h1 h2=>h j (by omega) (by omega)]
theorem Xw (s j:Nat):(if s.testBit j = true then 1 else 0) = s / 2 ^ j % 2:=by
 rw [Nat.testBit_eq_decide_div_mod_eq]
 by_cases h:s / 2 ^ j % 2 = 1
 ·simp [h]
 ·simp only [h,decide_false,Bool.false_eq_true,if_false]
  omega
theorem WJ (s : Nat):DA s = IL 8 0 s.testBit:=by
 simp only [IL,Xw,DA,Nat.zero_add,Nat.pow_zero,Nat.div_one,Nat.add_zero,Nat.reduceAdd,Nat.reducePow]
 omega
theorem Up {s n:Nat} (hn:n≤8) (hs:s<2 ^ n):DA s = IL n 0 s.testBit:=by
 rw [WJ]
 have h:=Rg (k:=n) (i:=0) (r:=8 - n) (S:=s.testBit) fun j h1 _=>Nat.testBit_lt_two_pow (Nat.lt_of_lt_of_le hs (Nat.pow_le_pow_right (by decide) (by omega)))
 rwa [show n+(8 - n) = 8 by omega] at h
theorem RY (S : Nat→Bool):∀ n,∃ s,s<2 ^ n∧∀ j,j<n→s.testBit j = S j
 | 0=>⟨0,by decide,fun j hj=>absurd hj (Nat.not_lt_zero j)⟩
 | n+1=>by
  obtain ⟨s,h1,h2⟩:=RY S n
  have hp:2 ^ (n+1) = 2 ^ n+2 ^ n:=by rw [Nat.pow_succ];omega
  refine ⟨2 ^ n*(if S n = true then 1 else 0)+s,?_,fun j hj=>?_⟩
  ·split <;> omega
  ·rw [Nat.testBit_two_pow_mul_add _ h1]
   split
   ·exact h2 j (by assumption)
   ·obtain rfl : j = n := by omega
    rw [Nat.sub_self]
    cases S j <;> rfl
theorem Xj {L : List Nat} {s:Nat} (h:s∈L):((DA s:Nat):Int)≤Gk L:=by
 have key:∀ (L:List Nat) (d:Int),d≤L.foldl (fun d s=>max d ((DA s:Nat):Int)) d∧∀ s∈L,((DA s:Nat):Int)≤L.foldl (fun d s=>max d ((DA s:Nat):Int)) d:=by
  intro L
  induction L with
  | nil=>exact fun d=>⟨Int.le_refl d,fun s hs=>by cases hs⟩
  | cons b L ih =>
   intro d
   obtain ⟨h1,h2⟩:=ih (max d ((DA b:Nat):Int))
   rw [List.foldl_cons]
   refine ⟨by omega,fun s hs=>?_⟩
   rcases List.mem_cons.1 hs with rfl | hs
   ·omega
   ·exact h2 s hs
 exact (key L (-1)).2 s h
theorem Xk (L : List Nat):Gk L = -1∨∃ s∈L,Gk L = ((DA s:Nat):Int):=by
 have key:∀ (L:List Nat) (d:Int),L.foldl (fun d s=>max d ((DA s:Nat):Int)) d = d∨∃ s∈L,L.foldl (fun d s=>max d ((DA s:Nat):Int)) d = ((DA s:Nat):Int):=by
  intro L
  induction L with
  | nil=>exact fun d=>.inl rfl
  | cons b L ih =>
   intro d
   rw [List.foldl_cons]
   rcases ih (max d ((DA b:Nat):Int)) with h | ⟨s,hs,h⟩
   ·rw [h]
    rcases Int.le_total d ((DA b:Nat):Int) with hle | hle
    ·exact .inr ⟨b,List.mem_cons_self,by omega⟩
    ·exact .inl (by omega)
   ·exact .inr ⟨s,List.mem_cons_of_mem _ hs,h⟩
 exact key L (-1)
theorem GB {l : Ae} {m s:Nat}:s∈Df l m↔s<m∧EE l s = true:=by
 unfold Df
 rw [List.mem_filter,List.mem_range]
theorem MX {l : Ae} {n:Nat} (hn:n≤8) (hl:∀ a∈l,SupN n a):IsDim n 0 l (Gk (Df l (2 ^ n))):=by
 refine ⟨fun S hS=>?_,?_⟩
 ·obtain ⟨s,h1,h2⟩:=RY S n
  have hI:KU n 0 l s.testBit:=fun a ha=>by
   obtain ⟨j,g1,g2,g3,g4⟩:=hS a ha
   exact ⟨j,g1,g2,(h2 j (by omega)).trans g3,g4⟩
  rw [GM (S:=S) (S':=s.testBit) fun j _ hj=>(h2 j (by omega)).symm,← Up hn h1]
  exact Xj (GB.2 ⟨h1,(UX hn h1 hl).2 hI⟩)
 ·rcases Xk (Df l (2 ^ n)) with h | ⟨s,hs,h⟩
  ·exact .inl h
  ·obtain ⟨h1,h2⟩:=GB.1 hs
   exact .inr ⟨s.testBit,(UX hn h1 hl).1 h2,by rw [h,Up hn h1]⟩
def FG (a : Nat→Int):Nat→Int:=fun j=>if j<8 then a j else 0
theorem RA {l : Ae} {n:Nat} {f:Nat→Int} (hn:n≤8) (hl:∀ a∈l,SupN n a) (hf:Num l f):∃ c,Ser (Cv n f) (Gk (Df l (2 ^ n))) c:=by
 have h8:∀ a∈l.map FG,∀ j,0≤a j:=fun a ha j=>by
  obtain ⟨b,hb,rfl⟩:=List.mem_map.1 ha
  show 0≤if j<8 then b j else 0
  split
  ·rename_i h
   exact (hl b hb j h).1
  ·omega
 have hS:∀ S,KU n 0 (l.map FG) S↔KU n 0 l S:=fun S=>⟨fun h a ha=>by
  obtain ⟨j,g1,g2,g3,g4⟩:=h _ (List.mem_map_of_mem ha)
  refine ⟨j,g1,g2,g3,?_⟩
  have g5:0<if j<8 then a j else 0:=g4
  rwa [if_pos (by omega)] at g5,fun h a ha=>by
  obtain ⟨b,hb,rfl⟩:=List.mem_map.1 ha
  obtain ⟨j,g1,g2,g3,g4⟩:=h b hb
  refine ⟨j,g1,g2,g3,?_⟩
  show 0<if j<8 then b j else 0
  rwa [if_pos (by omega)]⟩
 have hF:FR n 0 (l.map FG) = FR n 0 l:=by
  funext d
  refine Er fun x _=>?_
  unfold PJ
  rw [List.any_map]
  congr 2
  funext a
  refine bool_eq (Fg.trans (Iff.trans ⟨fun h j h1 h2=>?_,fun h j h1 h2=>?_⟩ Fg.symm))
  ·have:=h j h1 h2
   have h3:(if j<8 then a j else 0)≤x j:=this
   rwa [if_pos (by omega)] at h3
  ·show (if j<8 then a j else 0)≤x j
   rw [if_pos (by omega)]
   exact h j h1 h2
 obtain ⟨D,c,h1,h2⟩:=Rn n 0 (l.map FG) h8
 have h3:IsDim n 0 l D:=⟨fun S h=>h2.1 S ((hS S).2 h),h2.2.imp id fun ⟨S,g1,g2⟩=>⟨S,(hS S).1 g1,g2⟩⟩
 have h4:=h3.uniq (MX hn hl) h1.ge.1 (Jv _).1
 rw [hF,← A0m hn hl] at h1
 have h5:Cv n f = fun d=>hN n d l:=funext fun d=>hf n hn hl d
 rw [h5,← h4]
 exact ⟨c,h1⟩
def EW (s t:Nat):Bool:=decide (((s &&& (255 - t):Nat):Int) = 0)
theorem Vu {s j:Nat} (hs:s<256) (hj:8≤j):s.testBit j = false :=
 Nat.testBit_lt_two_pow (Nat.lt_of_lt_of_le (show s<2 ^ 8 from hs) (Nat.pow_le_pow_right (by decide) hj))
theorem Fv {s t:Nat} (hs:s<256) (ht:t<256):EW s t = true↔∀ j,s.testBit j = true→t.testBit j = true:=by
 unfold EW
 rw [decide_eq_true_iff]
 constructor
 ·intro h j hsj
  have h0:s &&& (255 - t) = 0:=by omega
  have hj:j<8:=by
   rcases Nat.lt_or_ge j 8 with h | h
   ·exact h
   ·rw [Vu hs h] at hsj
    cases hsj
  have h1:(s &&& (255 - t)).testBit j = false:=by rw [h0];exact Nat.zero_testBit j
  rw [Nat.testBit_and,hsj,MY ht hj,Bool.true_and] at h1
  simpa using h1
 ·intro h
  have h0:s &&& (255 - t) = 0:=by
   refine Nat.eq_of_testBit_eq fun j=>?_
   rw [Nat.zero_testBit,Nat.testBit_and]
   by_cases hj:j<8
   ·rw [MY ht hj]
    cases hb:s.testBit j with
    | false=>rfl
    | true=>rw [h j hb];rfl
   ·rw [Vu hs (by omega)]
    rfl
  rw [h0]
  rfl
def MM (l : Ae) (N:Nat):List Nat:=(Df l N).filter fun s => !(Df l N).any fun t=>(s != t) && EW s t
theorem UV {l : Ae} {s t:Nat} (hs:s<256) (ht:t<256) (h:EE l t = true) (hst:∀ j,s.testBit j = true→t.testBit j = true):EE l s = true:=by
 rw [Kk ht] at h
 rw [Kk hs]
 intro a ha
 obtain ⟨j,h1,h2,h3,h4⟩:=h a ha
 refine ⟨j,h1,h2,?_,h4⟩
 cases hb:s.testBit j with
 | false=>rfl
 | true=>rw [hst j hb] at h3;cases h3
theorem Wv {s t:Nat} (hs:s<256) (ht:t<256) (h:EW s t = true):s≤t:=by
 have e:s &&& t = s:=Nat.eq_of_testBit_eq fun j=>by
  rw [Nat.testBit_and]
  cases hb:s.testBit j with
  | false=>rfl
  | true=>rw [(Fv hs ht).1 h j hb];rfl
 rw [← e]
 exact Nat.and_le_right
theorem Sw (s : Nat) (hs:s<256):EW s s = true:=(Fv hs hs).2 fun _ h=>h
theorem PI {s t u:Nat} (hs:s<256) (ht:t<256) (hu:u<256) (h:EW s t = true) (h':EW t u = true):EW s u = true:=(Fv hs hu).2 fun j hj=>(Fv ht hu).1 h' j ((Fv hs ht).1 h j hj)
theorem Jp {l : Ae} {N s:Nat}:s∈MM l N↔s<N∧EE l s = true∧∀ t,t<N→EE l t = true→EW s t = true→s = t:=by
 unfold MM
 rw [List.mem_filter,GB,Bool.not_eq_true',← Bool.not_eq_true,List.any_eq_true]
 constructor
 ·intro ⟨⟨h1,h2⟩,h3⟩
  refine ⟨h1,h2,fun t ht hi hs=>Classical.byContradiction fun hne=>h3 ⟨t,GB.2 ⟨ht,hi⟩,?_⟩⟩
  rw [Bool.and_eq_true]
  exact ⟨bne_iff_ne.2 hne,hs⟩
 ·intro ⟨h1,h2,h3⟩
  refine ⟨⟨h1,h2⟩,fun ⟨t,ht,h4⟩=>?_⟩
  obtain ⟨h5,h6⟩:=GB.1 ht
  rw [Bool.and_eq_true] at h4
  exact bne_iff_ne.1 h4.1 (h3 t h5 h6 h4.2)
theorem LO {l : Ae} {N:Nat} (hN:N≤256):∀ (m s:Nat),N - s≤m→s<N→EE l s = true→∃ t∈MM l N,EW s t = true
 | 0,s,hm,hs,_=>by omega
 | m+1,s,hm,hs,hi=>by
  by_cases h:∀ t,t<N→EE l t = true→EW s t = true→s = t
  ·exact ⟨s,Jp.2 ⟨hs,hi,h⟩,Sw s (by omega)⟩
  ·obtain ⟨t,h⟩:=Classical.not_forall.1 h
   obtain ⟨h1,h⟩:=Classical.not_imp.1 h
   obtain ⟨h2,h⟩:=Classical.not_imp.1 h
   obtain ⟨h3,h⟩:=Classical.not_imp.1 h
   have:=Wv (by omega) (by omega) h3
   obtain ⟨u,h4,h5⟩:=LO hN m t (by omega) h1 h2
   exact ⟨u,h4,PI (by omega) (by omega) (by have:=(Jp.1 h4).1;omega) h3 h5⟩
theorem WV (l : Ae) (N:Nat):(MM l N).Pairwise (· < ·):=(List.Pairwise.filter _ (List.pairwise_lt_range)).filter _
def StdX (l : Ae) (n:Nat) (x:Nat→Int):Prop:=(∀ j,j<8→0≤x j∧(n≤j→x j = 0))∧inB l x = false
theorem OF {l : Ae} {x y:Nat→Int} (h:Dv x y) (hx:inB l x = true):inB l y = true:=by
 obtain ⟨a,ha,hd⟩:=CO.1 hx
 exact CO.2 ⟨a,ha,fun j hj=>Int.le_trans (hd j hj) (h j hj)⟩
theorem StdX.congr {l : Ae} {n:Nat} {x y:Nat→Int} (h:StdX l n x) (e:Eqv x y):StdX l n y:=by
 refine ⟨fun j hj=>by rw [← e j hj];exact h.1 j hj,?_⟩
 rw [Bool.eq_false_iff]
 intro hy
 have:=OF (show Dv y x from e.symm.dv) hy
 rw [h.2] at this
 cases this
abbrev PE (m : Nat→Int) (i:Nat):Nat→Int:=HN m i (m i+1)
theorem JF (m : Nat→Int) (i j:Nat):PE m i j = if j = i then m i+1 else m j:=rfl
theorem YG (m : Nat→Int) (i:Nat):Dv m (PE m i):=fun j _=>by
 rw [JF]
 split
 ·rename_i h;subst h;omega
 ·omega
def Clo (l : Ae) (n:Nat) (K:Ae) (x:Nat→Int):Prop:=∀ y,StdX l n y→Dv x y→MemE y K
theorem MemE.app {K tl:Ae} {y:Nat→Int} (h:MemE y K):MemE y (K ++ tl):=EO.2 (.inl h)
theorem Clo.app {l : Ae} {n:Nat} {K tl:Ae} {x:Nat→Int} (h:Clo l n K x):Clo l n (K ++ tl) x:=fun y hy hd=>(h y hy hd).app
def PreD (l : Ae) (n:Nat) (K:Ae) (m:Nat→Int):Prop:=∀ x∈K,(Dv x m∧¬ Eqv x m)∨Clo l n K x
structure Dfs (l : Ae) (n:Nat) (K:Ae) (m:Nat→Int) (K':Ae):Prop where
 ext:∃ tl,K' = K ++ tl
 new:∀ x∈K',x∈K∨(StdX l n x∧Dv m x)
 all:Clo l n K' m
 pw:K'.Pairwise fun a b=>¬ Eqv a b
structure DfsI (l : Ae) (n:Nat) (K:Ae) (m:Nat→Int) (i:Nat) (K':Ae):Prop where
 ext:∃ tl,K' = K ++ m :: tl
 new:∀ x∈K',x∈K∨(StdX l n x∧Dv m x)
 clo:∀ x∈K',x∈K∨Eqv x m∨Clo l n K' x
 got:∀ t,t<i→Clo l n K' (PE m t)
 pw:K'.Pairwise fun a b=>¬ Eqv a b
theorem VZ {l : Ae} {n:Nat} {K:Ae} {m:Nat→Int} (h:inB l m = true) (hp:K.Pairwise fun a b=>¬ Eqv a b):Dfs l n K m K :=
 ⟨⟨[],(List.append_nil K).symm⟩,fun x hx=>.inl hx,fun y hy hd=>(by
  have:=OF hd h
  rw [hy.2] at this
  exact Bool.noConfusion this),hp⟩
theorem VY {l : Ae} {n:Nat} {K:Ae} {m:Nat→Int} (h:MemE m K) (hpre:PreD l n K m) (hp:K.Pairwise fun a b=>¬ Eqv a b):Dfs l n K m K:=by
 refine ⟨⟨[],(List.append_nil K).symm⟩,fun x hx=>.inl hx,fun y hy hd=>?_,hp⟩
 obtain ⟨x,hx,e⟩:=h
 rcases hpre x hx with ⟨_,hne⟩ | hc
 ·exact absurd e hne
 ·exact hc y hy (e.dv.trans hd)
theorem DfsI.start {l : Ae} {n:Nat} {K:Ae} {m:Nat→Int} (hm:StdX l n m) (hn:∀ x∈K,¬ Eqv m x) (hp:K.Pairwise fun a b=>¬ Eqv a b):DfsI l n K m 0 (K ++ [m]):=by
 refine ⟨⟨[],rfl⟩,fun x hx=>?_,fun x hx=>?_,fun t ht=>absurd ht (Nat.not_lt_zero t),?_⟩
 ·rcases List.mem_append.1 hx with h | h
  ·exact .inl h
  ·rw [List.mem_singleton.1 h]
   exact .inr ⟨hm,Dv.refl m⟩
 ·rcases List.mem_append.1 hx with h | h
  ·exact .inl h
  ·rw [List.mem_singleton.1 h]
   exact .inr (.inl (Eqv.refl m))
 ·rw [List.pairwise_append]
  refine ⟨hp,by simp,fun a ha b hb=>?_⟩
  rw [List.mem_singleton.1 hb]
  exact fun e=>hn a ha e.symm
theorem DfsI.pre {l : Ae} {n:Nat} {K K':Ae} {m:Nat→Int} {i:Nat} (h:DfsI l n K m i K') (hp:PreD l n K m) (hi:i<8):PreD l n K' (PE m i):=fun x hx=>by
 have up:Dv x m→Dv x (PE m i)∧¬ Eqv x (PE m i):=fun hd=>⟨hd.trans (YG m i),fun e=>by
  have h1:=hd i hi
  have h2:=e i hi
  rw [JF,if_pos rfl] at h2
  omega⟩
 obtain ⟨tl,he⟩:=h.ext
 rcases h.clo x hx with h1 | h1 | h1
 ·rcases hp x h1 with h2 | h2
  ·exact .inl (up h2.1)
  ·refine .inr ?_
   rw [he]
   exact h2.app
 ·exact .inl (up h1.dv)
 ·exact .inr h1
theorem DfsI.step {l : Ae} {n:Nat} {K K1 K2:Ae} {m:Nat→Int} {i:Nat} (h:DfsI l n K m i K1) (h2:Dfs l n K1 (PE m i) K2):DfsI l n K m (i+1) K2:=by
 obtain ⟨tl,e1⟩:=h.ext
 obtain ⟨tl2,e2⟩:=h2.ext
 refine ⟨⟨tl ++ tl2,by rw [e2,e1,List.append_assoc,List.cons_append]⟩,fun x hx=>?_,fun x hx=>?_,fun t ht=>?_,h2.pw⟩
 ·rcases h2.new x hx with h3 | ⟨h3,h4⟩
  ·exact h.new x h3
  ·exact .inr ⟨h3,(YG m i).trans h4⟩
 ·rcases h2.new x hx with h3 | ⟨h3,h4⟩
  ·rcases h.clo x h3 with h5 | h5 | h5
   ·exact .inl h5
   ·exact .inr (.inl h5)
   ·refine .inr (.inr ?_)
    rw [e2]
    exact h5.app
  ·exact .inr (.inr fun y hy hd=>h2.all y hy (h4.trans hd))
 ·by_cases e:t = i
  ·subst e
   exact h2.all
  ·rw [e2]
   exact (h.got t (by omega)).app
theorem DfsI.done {l : Ae} {n:Nat} {K K':Ae} {m:Nat→Int} (h:DfsI l n K m n K') (hn:n≤8) (hm:∀ j,j<8→0≤m j):Dfs l n K m K':=by
 obtain ⟨tl,e⟩:=h.ext
 refine ⟨⟨m :: tl,e⟩,h.new,fun y hy hd=>?_,h.pw⟩
 by_cases he:Eqv m y
 ·exact ⟨m,by rw [e];simp,he⟩
 ·obtain ⟨j,he⟩:=Classical.not_forall.1 he
  obtain ⟨hj,hne⟩:=Classical.not_imp.1 he
  have h1:=hd j hj
  have h2:=hm j hj
  have hjn:j<n:=by
   rcases Nat.lt_or_ge j n with h3 | h3
   ·exact h3
   ·have:=(hy.1 j hj).2 h3
    omega
  refine h.got j hjn y hy fun t ht=>?_
  rw [JF]
  split
  ·rename_i h3
   subst h3
   omega
  ·exact hd t ht
theorem Zh (m : Nat→Int) (i:Nat) (hm:∀ j,j<8→0≤m j) (hi:i<8):Cy 8 0 (PE m i) = Cy 8 0 m+1:=by
 have key:∀ (k a:Nat),a+k≤8→Cy k a (PE m i) = Cy k a m+if a≤i∧i<a+k then 1 else 0:=by
  intro k
  induction k with
  | zero=>intro a _;rw [if_neg (by omega)];rfl
  | succ k ih =>
   intro a ha
   rw [Cy,Cy,ih (a+1) (by omega),JF]
   have h0:=hm a (by omega)
   by_cases e:a = i
   ·subst e
    rw [if_pos rfl,if_neg (by omega),if_pos (by omega)]
    omega
   ·rw [if_neg e]
    by_cases h1:a≤i∧i<a+(k+1)
    ·rw [if_pos h1, if_pos (by omega)]
     omega
    ·rw [if_neg h1, if_neg (by omega)]
     rfl
 rw [key 8 0 (by omega),if_pos (by omega)]
theorem Dfs.top {l : Ae} {n:Nat} {K:Ae} (h:Dfs l n [] (fun _=>0) K):(∀ x,MemE x K↔StdX l n x)∧K.Pairwise fun a b=>¬ Eqv a b:=by
 refine ⟨fun x=>⟨fun ⟨a,ha,e⟩=>?_,fun hx=>h.all x hx fun j hj=>(hx.1 j hj).1⟩,h.pw⟩
 rcases h.new a ha with h1 | ⟨h1,_⟩
 ·cases h1
 ·exact h1.congr e
theorem PreD.top (l : Ae) (n:Nat) (m:Nat→Int):PreD l n [] m:=fun x hx=>by cases hx
theorem PM {S K:Ae} (hp:S.Perm K) (hs:S.Pairwise fun a b=>lx a b≤0) (hK:K.Pairwise fun a b=>¬ Eqv a b):(S.Pairwise fun a b=>lx a b<0)∧∀ x,MemE x S↔MemE x K:=by
 have hS:S.Pairwise fun a b=>¬ Eqv a b:=(hp.pairwise_iff fun {a b} h e=>h e.symm).2 hK
 refine ⟨?_,fun x=>⟨fun ⟨a,ha,e⟩=>⟨a,hp.mem_iff.1 ha,e⟩,fun ⟨a,ha,e⟩=>⟨a,hp.mem_iff.2 ha,e⟩⟩⟩
 refine (hs.and hS).imp fun {a b} h=>?_
 have hne:lx a b ≠ 0:=fun h0=>h.2 (FP.1 h0)
 omega
theorem Jw {m m':Nat→Int}:∀ {k i:Nat},(∀ j,i≤j→j<i+k→m j = m' j)→Cy k i m = Cy k i m'
 | 0,_,_=>rfl
 | k+1,i,h=>by rw [Cy,Cy,h i (Nat.le_refl i) (by omega),Jw fun j h1 h2=>h j (by omega) (by omega)]
theorem FM : ∀ {k i d:Nat} {m:Nat→Int},m∈rM k i d↔InV k i m∧Cy k i m = d
 | 0,i,d,m=>by
  unfold rM
  constructor
  ·intro h
   split at h
   ·rename_i hd
    rw [List.mem_singleton.1 h]
    exact ⟨⟨fun _=>Int.le_refl 0,fun _ _=>rfl⟩,hd.symm⟩
   ·cases h
  ·intro ⟨h1,h2⟩
   have h3:0 = d:=h2
   rw [if_pos h3.symm,List.mem_singleton]
   funext j
   exact h1.2 j (by omega)
 | k+1,i,d,m=>by
  rw [rM,List.mem_flatMap]
  constructor
  ·intro ⟨e,he,h⟩
   have he:=List.mem_range.1 he
   obtain ⟨m',hm',rfl⟩:=List.mem_map.1 h
   obtain ⟨h1,h2⟩:=FM.1 hm'
   refine ⟨⟨fun j=>?_,fun j hj=>?_⟩,?_⟩
   ·show 0≤if j = i then _ else _
    split
    ·omega
    ·exact h1.1 j
   ·show (if j = i then _ else _) = _
    rw [if_neg (by omega)]
    exact h1.2 j (by omega)
   ·rw [Cy, Jw (m' := m') fun j h3 _ => if_neg (by omega), h2]
    show (if i = i then (((d - e:Nat):Nat):Int) else m' i).toNat+e = d
    rw [if_pos rfl]
    omega
  ·intro ⟨h1,h2⟩
   rw [Cy] at h2
   refine ⟨Cy k (i+1) m,List.mem_range.2 (by omega),List.mem_map.2 ⟨fun j=>if j = i then 0 else m j,FM.2 ⟨⟨fun j=>?_,fun j hj=>?_⟩,?_⟩,?_⟩⟩
   ·show 0≤if j = i then _ else _
    split
    ·omega
    ·exact h1.1 j
   ·show (if j = i then _ else _) = _
    split
    ·rfl
    ·exact h1.2 j (by omega)
   ·exact Jw fun j h3 _=>if_neg (by omega)
   ·funext j
    show (if j = i then (((d - Cy k (i+1) m:Nat):Nat):Int) else if j = i then 0 else m j) = m j
    split
    ·rename_i e
     subst e
     have:=h1.1 j
     omega
    ·rfl
theorem NT : ∀ (k i d:Nat),(rM k i d).Nodup
 | 0,i,d=>by
  unfold rM
  split
  ·simp
  ·exact List.nodup_nil
 | k+1,i,d=>by
  rw [rM]
  unfold List.Nodup
  rw [List.pairwise_flatMap]
  refine ⟨fun e he=>?_,(List.pairwise_lt_range (n:=d+1)).imp_of_mem ?_⟩
  ·have ih:=NT k (i+1) e
   rw [List.pairwise_map]
   refine List.Pairwise.imp_of_mem ?_ ih
   intro a b ha hb hab h
   refine hab ?_
   obtain ⟨h1,_⟩:=FM.1 ha
   obtain ⟨h2,_⟩:=FM.1 hb
   funext j
   by_cases hj:j = i
   ·rw [hj,h1.2 i (by omega),h2.2 i (by omega)]
   ·have:=congrFun h j
    simp only [if_neg hj] at this
    exact this
  ·intro e e' he he' hlt x hx y hy h
   obtain ⟨a,_,rfl⟩:=List.mem_map.1 hx
   obtain ⟨b,_,rfl⟩:=List.mem_map.1 hy
   have he:=List.mem_range.1 he
   have he':=List.mem_range.1 he'
   have:=congrFun h i
   simp only [if_pos] at this
   omega
theorem MQ (l : Ae):∀ L:Ae,Py (Gi l) L = ((L.filter fun m => !inB l m).length:Int)
 | []=>rfl
 | m :: L=>by
  rw [Py,MQ l L,List.filter_cons]
  unfold Gi
  cases inB l m with
  | true=>simp
  | false=>simp;omega
theorem Ij (a : Nat→Int):Eqv (FG a) a:=fun j hj=>if_pos hj
def Lf (l : Ae) (n B:Nat):Ae:=((List.range B).flatMap fun d=>rM n 0 d).filter fun m => !inB l m
theorem NE (l : Ae) (n:Nat):∀ B,((Lf l n B).length:Int) = Bv B fun d=>hN n d l
 | 0=>rfl
 | B+1=>by
  rw [Bv,← NE l n B,← OG,MQ,Lf,List.range_succ,List.flatMap_append,List.filter_append,List.length_append]
  simp [Lf]
theorem JP (l : Ae) (n B:Nat):(Lf l n B).Nodup:=by
 refine List.Pairwise.filter _ ?_
 rw [List.pairwise_flatMap]
 refine ⟨fun d _=>NT n 0 d,(List.pairwise_lt_range (n:=B)).imp_of_mem ?_⟩
 intro d d' _ _ hlt x hx y hy h
 have h1:=(FM.1 hx).2
 have h2:=(FM.1 hy).2
 rw [h] at h1
 omega
theorem Gr {l : Ae} {n B:Nat} {m:Nat→Int}:m∈Lf l n B↔InV n 0 m∧Cy n 0 m<B∧inB l m = false:=by
 unfold Lf
 rw [List.mem_filter,List.mem_flatMap]
 constructor
 ·intro ⟨⟨d,hd,hm⟩,h⟩
  obtain ⟨h1,h2⟩:=FM.1 hm
  exact ⟨h1,by rw [h2];exact List.mem_range.1 hd,by simpa using h⟩
 ·intro ⟨h1,h2,h3⟩
  exact ⟨⟨_,List.mem_range.2 h2,FM.2 ⟨h1,rfl⟩⟩,by simp [h3]⟩
theorem Sx {l K:Ae} {n B:Nat} (hn:n≤8) (hK:∀ x,MemE x K↔StdX l n x) (hp:K.Pairwise fun a b=>¬ Eqv a b) (hB:∀ x,StdX l n x→Cy n 0 x<B):((K.length:Nat):Int) = Bv B fun d=>hN n d l:=by
 rw [← NE]
 have hnd:(K.map FG).Nodup:=by
  unfold List.Nodup
  rw [List.pairwise_map]
  refine hp.imp ?_
  intro a b h e
  refine h fun j hj=>?_
  have:=congrFun e j
  unfold FG at this
  rwa [if_pos hj,if_pos hj] at this
 have hperm:(K.map FG).Perm (Lf l n B):=(List.perm_ext_iff_of_nodup hnd (JP l n B)).2 fun m=>by
  rw [Gr]
  constructor
  ·intro h
   obtain ⟨a,ha,rfl⟩:=List.mem_map.1 h
   have h1:StdX l n (FG a):=((hK a).1 ⟨a,ha,Eqv.refl a⟩).congr (Ij a).symm
   refine ⟨⟨fun j=>?_,fun j hj=>?_⟩,hB _ h1,h1.2⟩
   ·by_cases h8:j<8
    ·exact (h1.1 j h8).1
    ·unfold FG
     rw [if_neg h8]
     omega
   ·by_cases h8:j<8
    ·exact (h1.1 j h8).2 (by omega)
    ·unfold FG
     rw [if_neg h8]
  ·intro ⟨h1,h2,h3⟩
   have h4:StdX l n m:=⟨fun j hj=>⟨h1.1 j,fun h=>h1.2 j (by omega)⟩,h3⟩
   obtain ⟨a,ha,e⟩:=(hK m).2 h4
   refine List.mem_map.2 ⟨a,ha,funext fun j=>?_⟩
   unfold FG
   split
   ·rename_i h8
    exact e j h8
   ·exact (h1.2 j (by omega)).symm
 rw [← hperm.length_eq,List.length_map]
def code (B : Nat):Nat→Nat→(Nat→Int)→Nat
 | 0,_,_=>0
 | k+1,i,x=>(x i).toNat+(B+1)*code B k (i+1) x
theorem RW {B : Nat} {x:Nat→Int}:∀ {k i:Nat},(∀ j,i≤j→j<i+k→0≤x j∧x j≤B)→code B k i x<(B+1) ^ k
 | 0,_,_=>by rw [Nat.pow_zero];exact Nat.one_pos
 | k+1,i,h=>by
  have h1:=h i (Nat.le_refl i) (by omega)
  have h2:=RW (B:=B) (x:=x) (k:=k) (i:=i+1) fun j a b=>h j (by omega) (by omega)
  rw [code,Nat.pow_succ]
  have h3:(B+1)*(code B k (i+1) x+1)≤(B+1)*(B+1) ^ k:=Nat.mul_le_mul_left _ h2
  rw [Nat.mul_add,Nat.mul_one] at h3
  rw [Nat.mul_comm ((B+1) ^ k)]
  omega
theorem OW {B : Nat} {x y:Nat→Int}:∀ {k i:Nat},(∀ j,i≤j→j<i+k→0≤x j∧x j≤B)→(∀ j,i≤j→j<i+k→0≤y j∧y j≤B)→code B k i x = code B k i y→∀ j,i≤j→j<i+k→x j = y j
 | 0,_,_,_,_,j,h1,h2=>by omega
 | k+1,i,hx,hy,h,j,h1,h2=>by
  have gx:=hx i (Nat.le_refl i) (by omega)
  have gy:=hy i (Nat.le_refl i) (by omega)
  rw [code,code] at h
  have hm:((x i).toNat+(B+1)*code B k (i+1) x) % (B+1) = ((y i).toNat+(B+1)*code B k (i+1) y) % (B+1):=by rw [h]
  rw [Nat.add_mul_mod_self_left,Nat.add_mul_mod_self_left,Nat.mod_eq_of_lt (by omega),Nat.mod_eq_of_lt (by omega)] at hm
  rw [hm] at h
  have h3:(B+1)*code B k (i+1) x = (B+1)*code B k (i+1) y:=by omega
  have h4:=Nat.eq_of_mul_eq_mul_left (by omega) h3
  by_cases e:j = i
  ·subst e
   omega
  ·exact OW (fun j a b=>hx j (by omega) (by omega)) (fun j a b=>hy j (by omega) (by omega)) h4 j (by omega) (by omega)
theorem Kc : ∀ (n:Nat) (I:List Nat),I.Nodup→(∀ i∈I,i<n)→I.length≤n
 | 0,[],_,_=>Nat.le_refl _
 | 0,i :: I,_,h=>absurd (h i (by simp)) (Nat.not_lt_zero _)
 | n+1,I,hn,h=>by
  by_cases hm:n∈I
  ·have h1:=Kc n (I.erase n) (hn.erase n) fun i hi=>by
    have h2:=(hn.mem_erase_iff).1 hi
    have h3:=h i h2.2
    have:=h2.1
    omega
   rw [List.length_erase_of_mem hm] at h1
   omega
  ·have:=Kc n I hn fun i hi=>by
    have h3:=h i hi
    have:i ≠ n:=fun e=>hm (by rw [← e];exact hi)
    omega
   omega
theorem Rk {l K:Ae} {n B:Nat} (hn:n≤8) (hK:∀ x∈K,StdX l n x) (hp:K.Pairwise fun a b=>¬ Eqv a b) (hB:∀ x,StdX l n x→∀ j,j<8→x j≤B):K.length≤(B+1) ^ n:=by
 have hx:∀ x∈K,∀ j,0≤j→j<0+n→0≤x j∧x j≤B:=fun x hx j _ hj=>⟨((hK x hx).1 j (by omega)).1,hB x (hK x hx) j (by omega)⟩
 have hnd:(K.map (code B n 0)).Nodup:=by
  unfold List.Nodup
  rw [List.pairwise_map]
  refine List.Pairwise.imp_of_mem ?_ hp
  intro a b ha hb h e
  refine h fun j hj=>?_
  by_cases hjn:j<n
  ·exact OW (hx a ha) (hx b hb) e j (Nat.zero_le j) (by omega)
  ·rw [((hK a ha).1 j hj).2 (by omega),((hK b hb).1 j hj).2 (by omega)]
 have:=Kc ((B+1) ^ n) _ hnd fun i hi=>by
  obtain ⟨x,h1,rfl⟩:=List.mem_map.1 hi
  exact RW (hx x h1)
 rwa [List.length_map] at this
theorem Lt {f g:Nat→Int}:∀ {n:Nat},(∀ t,t<n→f t = g t)→HH f n = HH g n
 | 0,_=>rfl
 | n+1,h=>by
  rw [HH,HH,h n (by omega),Lt fun t ht=>h t (by omega)]
def cS (N : Nat) (f:Nat→Int):Nat→Nat × (Nat→Int)
 | 0=>(N,f)
 | j+1=>(HH (kS (cS N f j).2 ((cS N f j).1 - 1)) (cS N f j).1,kS (cS N f j).2 ((cS N f j).1 - 1))
theorem Zf {f g:Nat→Int} {m i t:Nat} (h:∀ t,t<m→f t = g t) (hi:i<m) (ht:t≤i):kS f i t = pS g t:=by
 rw [kS,if_pos ht]
 exact BQ fun k hk=>h k (by omega)
theorem Vp (N : Nat) (f:Nat→Int):∀ j,(cS N f j).1 = (cN N f j).1∧∀ t,t<(cN N f j).1→(cS N f j).2 t = Cv j f t
 | 0=>⟨rfl,fun _ _=>rfl⟩
 | j+1=>by
  obtain ⟨h1,h2⟩:=Vp N f j
  have h3:=Qh N f j
  have h4:∀ t,t<(cN N f j).1→kS (cS N f j).2 ((cN N f j).1 - 1) t = pS (Cv j f) t:=fun t ht=>Zf h2 (by omega) (by omega)
  have h5:(cN N f (j+1)).1 = HH (pS (Cv j f)) (cN N f j).1:=by
   show HH (pS (cN N f j).2) _ = _
   rw [h3]
  have h6:(cS N f (j+1)).1 = (cN N f (j+1)).1:=by
   rw [h5]
   show HH (kS (cS N f j).2 ((cS N f j).1 - 1)) (cS N f j).1 = _
   rw [h1]
   exact Lt h4
  refine ⟨h6,fun t ht=>?_⟩
  show kS (cS N f j).2 ((cS N f j).1 - 1) t = _
  rw [h1]
  rw [h5] at ht
  exact h4 t (Nat.lt_of_lt_of_le ht (JJ _ _))
theorem Vo (N : Nat) (f:Nat→Int) (j:Nat):(cS N f j).1≤N:=by
 rw [(Vp N f j).1]
 exact RX N f j
theorem Vq {N Dg:Nat} {f:Nat→Int} {B:Int} (h:Bnd f Dg B):∀ j,Bnd (cS N f j).2 Dg (B*((Dg:Int)+1) ^ j)
 | 0=>by rw [Int.pow_zero,Int.mul_one];exact h
 | j+1=>by
  have:=(Vq (N:=N) h j).kS ((cS N f j).1 - 1)
  rw [Int.pow_succ,← Int.mul_assoc]
  exact this
theorem UC {f f':Nat→Int} {n:Nat} (h:∀ i,i<n→f i = f' i):nD n f = nD n f':=by
 unfold nD
 rw [List.map_congr_left fun i hi=>by rw [h i (List.mem_range.1 hi)]]
theorem LH {B : Int} {Dg r j:Nat} (hB0:0≤B) (hB:B*((Dg:Int)+1) ^ r≤9223372036854775807) (hj:j≤r):B*((Dg:Int)+1) ^ j≤9223372036854775807:=by
 refine Int.le_trans (Int.mul_le_mul_of_nonneg_left ?_ hB0) hB
 have:(Dg+1) ^ j≤(Dg+1) ^ r:=Nat.pow_le_pow_right (by omega) hj
 exact_mod_cast this
theorem Ti (l : Ae) (n N:Nat) (f:Nat→Int) (hn:n≤1000) (cn:Abs Tryz.prog 47 [BG l] (nD N f)):Abs Tryz.prog 58 [BG l,ex (.int .i64 (n:Nat)),ex (.int .i64 (n:Nat))] (nD N f):=by
 refine Ab Tryz.func58 fun s0=>?_
 rw [Tryz.ntmps58]
 refine Y1<|Wa<|Y0<|Y1<|Wm ?_;refine Wq (Ao (cn)) ?_;refine Wa<|Y0<|Aa<|Y1<|Wm<|Wm ?_;refine Wq HA ?_;refine Wm<|Y0<|AWp.block ?_
 refine AJ (fun mz σ=>∃ k,k≤0∧mz = 0 - k∧σ = ⟨[(7,.d (nD N f)),(13,.d (ex (.int .i64 ((0:Nat):Int)))),(14,.d (ex (.int .i64 (k:Nat))))],[]⟩) ?le ⟨0,by omega,rfl,rfl⟩ ?round
 case le=>exact Ag (by exact Yd<|FrLe.cons rfl (AVle.int (by omega))<|Yd<|FrLe.nil) (by exact HpLe.nil)
 case round =>
  rintro mz _ ⟨k,hk,rfl,rfl⟩
  by_cases hlt:k<0
  ·omega
  ·obtain rfl : k = 0 := by omega
   apply Y1;refine Wq Aq ?_;refine Y0<|Aa ?_;refine Cf ?_;apply AG;apply Az;apply AA;apply AB;refine Yn<|Y1<|Wm<|Wa<|Y0 ?_;apply Aw
   exact Yf
theorem Vn (l : Ae) (n d r N Dg:Nat) (f:Nat→Int) (B:Int) (hnd:n = d+r) (hn:n≤1000) (hNDg:N≤Dg+1) (hD:Dg≤100000) (hb:Bnd f Dg B) (hB:B*((Dg:Int)+1) ^ r≤9223372036854775807) (cn:ZJ l N f):Abs Tryz.prog 58 [BG l,ex (.int .i64 (n:Nat)),ex (.int .i64 (d:Nat))] (nD (cN N f r).1 (Cv r f)):=by
 have hadd:∀ j,j<r→∀ i,i+1<(cS N f j).1→-9223372036854775808≤kS (cS N f j).2 i (i+1)+kS (cS N f j).2 i i∧kS (cS N f j).2 i (i+1)+kS (cS N f j).2 i i≤9223372036854775807:=fun j hj i hi=>by
  have h0:=Vo N f j
  have h1:=(Vq (N:=N) hb j).sum (i+1) (by omega)
  have h2:=LH hb.pos hB (j:=j+1) (by omega)
  rw [Int.pow_succ,← Int.mul_assoc] at h2
  rw [HY] at h1
  rw [MS,RN]
  omega
 refine Ab Tryz.func58 fun s0=>?_
 rw [Tryz.ntmps58]
 refine Y1<|Wa<|Y0<|Y1<|Wm ?_
 refine Be [] [] (cn) (.inl rfl) rfl rfl (.inl ⟨rfl,rfl⟩) (by repeat (first | exact ArgsC.nil | refine ArgsC.d rfl (D.le.refl _) ?_ | refine AR rfl rfl ?_)) (by decide) SelR.nil trivial rfl ?_
 rintro _ _ ⟨g,c,N0,hg1,hg2,hg4,hg3,rfl,rfl⟩
 refine ⟨_,_,_,(by first | exact AVRen.d | exact AVRen.own rfl | exact AVRen.ptr rfl | exact AVRen.fn rfl),(by repeat (first | exact SetR.nil | (apply SetR.cons;(first | exact OwRen.dead | exact Aj | exact OwRen.obj | exact Ar | exact Ak rfl);exact rfl))),(by repeat (first | exact AppR.nil | (apply AppR.cons;(first | exact OwRen.dead | exact Aj | exact OwRen.obj | exact Ar | exact Ak rfl);exact rfl))),?_⟩
 try simp only [AZ,Bh]
 refine Wa<|Y0<|Aa<|Y1<|Wm<|Wm ?_;refine Wq HA ?_;refine Wm<|Y0<|AWp.block ?_
 refine AJ (fun mz σ=>∃ k,k≤r∧mz = r - k∧σ = ⟨[(7,.d (sX g (cS N f k).1 c)),(13,.d (ex (.int .i64 (r:Nat)))),(14,.d (ex (.int .i64 (k:Nat))))],[.dead,.dead,.dead,.dead,.dead,.dead,.dead,.obj (BC [⟨g,3,nC (cS N f k).2 N0⟩] [c*1])]⟩) ?le ⟨0,by omega,rfl,rfl⟩ ?round
 case le=>exact Ag (by exact Yd<|FrLe.cons rfl (AVle.int (by omega))<|Yd<|FrLe.nil) (by exact HpLe.cons (OwLe.dead)<|HpLe.cons (OwLe.dead)<|HpLe.cons (OwLe.dead)<|HpLe.cons (OwLe.dead)<|HpLe.cons (OwLe.dead)<|HpLe.cons (OwLe.dead)<|HpLe.cons (OwLe.dead)<|HpLe.cons (OwLe.obj rfl)<|HpLe.nil)
 case round =>
  rintro mz _ ⟨k,hk,rfl,rfl⟩
  by_cases hlt:k<r
  ·have hle:=Vo N f k
   apply Y1;refine Wq Am ?_;refine Y0<|Aa ?_;refine Ct ?_;refine Ys<|Aa<|AWp.block<|Aa<|Y1<|Wa<|Y0<|AWp.block ?_
   refine AJ (fun mz σ=>∃ i,i≤(cS N f k).1 - 1∧mz = (cS N f k).1 - 1 - i∧σ = ⟨[(7,.d (sX g (cS N f k).1 c)),(13,.d (ex (.int .i64 (r:Nat)))),(14,.d (ex (.int .i64 (k:Nat)))),(8,.d (ex (.int .i64 ((i+1:Nat):Int))))],[.dead,.dead,.dead,.dead,.dead,.dead,.dead,.obj (BC [⟨g,3,nC (kS (cS N f k).2 i) N0⟩] [c*1])]⟩) ?lei ⟨0,by omega,rfl,rfl⟩ ?roundi
   case lei=>exact Ag (by exact Yd<|Yd<|Yd<|Yd<|FrLe.nil) (by exact HpLe.cons (OwLe.dead)<|HpLe.cons (OwLe.dead)<|HpLe.cons (OwLe.dead)<|HpLe.cons (OwLe.dead)<|HpLe.cons (OwLe.dead)<|HpLe.cons (OwLe.dead)<|HpLe.cons (OwLe.dead)<|HpLe.cons (OwLe.obj (by rw [RL]))<|HpLe.nil)
   case roundi =>
    rintro mz _ ⟨i,hi,rfl,rfl⟩
    by_cases hlti:i<(cS N f k).1 - 1
    ·have ha := hadd k hlt i (by omega)
     have hst:SetAt (nC (kS (cS N f k).2 i) N0) ((i+1)*1) [ex (.int .i64 (kS (cS N f k).2 i (i+1)+kS (cS N f k).2 i i))] (nC (kS (cS N f k).2 (i+1)) N0):=RM (cS N f k).2 i ▸ PW (by omega)
     refine Aa<|Y1<|Wm<|Wm ?_;refine Wq (Ds (ao rfl) (Ac rfl)) ?_;refine Wq Am ?_;apply Y0;refine Ct ?_;refine Ys<|Aa<|AWp.block ?_
     refine Dr [[],[],[(22,0),(23,1)],[(24,2)],[],[],[(27,5)],[(26,4),(28,6)],[(29,7)],[(25,3),(30,8)],[(22,0),(23,1)]] [[],[],[0,1],[0,1,2],[],[],[5],[4,5,6],[4,5,6,7],[0,1,2,3,4,5,6,7,8],[0,1,2,3,4,5,6,7,8,9]] ?_
     refine Xq Af ?_;refine Xq Af ?_;refine Xq (CB (k:=i+1) (ah rfl) (ah rfl) (Ac rfl) (Ac rfl) (by omega)) ?_;refine Xq (Io (e:=⟨g,3,nC (kS (cS N f k).2 i) N0⟩) 7 0 (ah rfl) rfl rfl (Ac rfl) rfl (Ff (by omega))) ?_;refine Xq Af ?_;refine Xq Af ?_;refine Xq DM ?_;refine Xq (CB (k:=i) (ah rfl) (ah rfl) (Ac rfl) (Ac rfl) (by omega)) ?_;refine Xq (Io (e:=⟨g,3,nC (kS (cS N f k).2 i) N0⟩) 7 0 (ah rfl) rfl rfl (Ac rfl) rfl (Ff (by omega))) ?_;refine Xq EC ?_;refine Xq (CB (k:=i+1) (ah rfl) (ah rfl) (Ac rfl) (Ac rfl) (by omega)) ?_;refine ⟨_,rfl,?_⟩
     refine Pv (e:=⟨g,3,nC (kS (cS N f k).2 i) N0⟩) 7 0 (ao rfl) (ao rfl) rfl rfl (Ac rfl) (Dw rfl) hst rfl ?_;apply AWl.nil;apply Ai;refine Yn<|AWp.region<|Wm ?_;refine Wq AH ?_;refine Wa ?_;apply AWl.nil
     refine ALoop.next ((cS N f k).1 - 1 - (i+1)) (by omega) ⟨i+1,by omega,rfl,rfl⟩ ?_
     exact Ag (by exact Yd<|Yd<|Yd<|Yd<|FrLe.nil) (by exact HpLe.cons (OwLe.dead)<|HpLe.cons (OwLe.dead)<|HpLe.cons (OwLe.dead)<|HpLe.cons (OwLe.dead)<|HpLe.cons (OwLe.dead)<|HpLe.cons (OwLe.dead)<|HpLe.cons (OwLe.dead)<|HpLe.cons (OwLe.obj rfl)<|HpLe.nil)
    ·refine Aa<|Y1<|Wm<|Wm ?_;refine Wq (Ds (ao rfl) (Ac rfl)) ?_;refine Wq Aq ?_;apply Y0;refine Cf ?_;apply AG;apply Az;apply AA;apply AB;refine Yn<|AWp.region<|Wm ?_
     obtain rfl:i = (cS N f k).1 - 1:=by omega
     refine Be [7] [] (NA (kS (cS N f k).2 ((cS N f k).1 - 1)) (cS N f k).1 N0 g c [c*1] (by omega) (by omega) (by omega)) (by first | exact Or.inl rfl | exact Or.inr ⟨by decide,rfl,by repeat (first | exact AvoidR.nil | refine AF rfl ?_ | refine AvoidR.dead ?_ | refine AM ?_ | refine AvoidR.obj ?_ | refine AD ?_ | refine AE rfl ?_ | refine AvoidR.pin rfl ?_)⟩) rfl rfl (by first | exact .inl ⟨rfl,rfl⟩ | exact .inr ⟨rfl,rfl⟩) (by repeat (first | exact ArgsC.nil | refine ArgsC.d rfl (D.le.refl _) ?_ | refine AR rfl rfl ?_)) (by decide) (by repeat (first | exact SelR.nil | refine SelR.var rfl ?_ | refine SelR.obj rfl ?_ | refine Bb rfl ?_ | refine AP rfl rfl rfl ?_)) (by repeat (first | exact trivial | refine ⟨⟨_,_,rfl⟩,?_⟩)) rfl ?_
     rintro _ _ ⟨rfl,rfl⟩
     refine ⟨_,_,_,(by first | exact AVRen.d | exact AVRen.own rfl | exact AVRen.ptr rfl | exact AVRen.fn rfl),(by repeat (first | exact SetR.nil | (apply SetR.cons;(first | exact OwRen.dead | exact Aj | exact OwRen.obj | exact Ar | exact Ak rfl);exact rfl))),(by repeat (first | exact AppR.nil | (apply AppR.cons;(first | exact OwRen.dead | exact Aj | exact OwRen.obj | exact Ar | exact Ak rfl);exact rfl))),?_⟩
     try simp only [AZ,Bh]
     refine Wa ?_;apply AWl.nil;apply Ai;refine Yn<|AWp.region ?_;refine Wq AH ?_;refine Wm ?_;apply AWl.nil
     refine ALoop.next (r - (k+1)) (by omega) ⟨k+1,by omega,rfl,rfl⟩ ?_
     exact Ag (by exact Yd<|Yd<|Yd<|FrLe.nil) (by exact HpLe.cons (OwLe.dead)<|HpLe.cons (OwLe.dead)<|HpLe.cons (OwLe.dead)<|HpLe.cons (OwLe.dead)<|HpLe.cons (OwLe.dead)<|HpLe.cons (OwLe.dead)<|HpLe.cons (OwLe.dead)<|HpLe.cons (OwLe.obj rfl)<|HpLe.nil)
  ·obtain rfl : k = r := by omega
   have h7:=Vp N f k
   have hle:=Vo N f k
   refine QN (σ':=⟨[(7,.d (nD (cN N f k).1 (Cv k f))),(13,.d (ex (.int .i64 (k:Nat)))),(14,.d (ex (.int .i64 (k:Nat))))],[]⟩) (FH (KZ 7 rfl rfl) (FH (EV (R:=nD (cN N f k).1 (Cv k f)) 7 7 rfl rfl rfl rfl fun s' hs v hv=>?_) ?_)) ?_
   ·rw [← UC (f:=(cS N f k).2) h7.2,← h7.1]
    exact YC (hs _ List.mem_cons_self) (by omega) (by omega) hg3 hv
   ·exact Ag (by exact Yd<|Yd<|Yd<|FrLe.nil) (by exact HpLe.nil)
   apply Y1;refine Wq Aq ?_;refine Y0<|Aa ?_;refine Cf ?_;apply AG;apply Az;apply AA;apply AB;refine Yn<|Y1<|Wm<|Wa<|Y0 ?_;apply Aw
   exact Yf
section
variable {P : Program} {s0:An} {n:Nat} {ops:Array Oper} {Q:Exit→AS→Prop} {rest:List Oper} {fr:List (Nat × AV)} {hp hp':List Ow} {ty:TypeId} {ps:String} {af:Array Edge}
theorem Sm {T : TypeId} {x:Operand} {d:D} {k t:Nat} (hx:AS.arg ⟨fr,hp⟩ x = .d d) (h1:One hp (.d d)) (hT:Nat.beq T 136 = false) (hd:Nat.blt t n = true) (hk:EP hp = some k) (hs:CR hp (.var T ([d].map .d)) = some hp') (h:AWl P s0 n ops Q rest ⟨(t,.ptr k 0) :: fr,hp'⟩):AWl P s0 n ops Q (⟨some t,.box T x,ty,ps,af,none⟩ :: rest) ⟨fr,hp⟩:=by
 have hT':T ≠ 136:=Nat.ne_of_beq_eq_false hT
 rw [Cq hs] at h
 have hk':=Dl hk
 subst hk'
 refine AWl.step rfl fun s ρ a hst K hK=>?_
 have hv:d.rel s (a.eval x):=by
  have:=hst.arg x
  rw [hx] at this
  exact this
 have h1v:(a.eval x).oneCell' = true:=h1 0 ρ s _ hst.hp hv
 obtain ⟨u,e1⟩:∃ u,a.eval x = u:=⟨_,rfl⟩
 rw [e1] at hv h1v
 have hcs:u.cells = #[u]:=by cases u <;> first | rfl | cases h1v
 have hrun:(execOp a.eval ⟨some t,.box T x,ty,ps,af,none⟩).run P s.w = .ok (.value (.pointer (some ⟨s.w.heap.size,0,none⟩))) (s.w.alloc (.cells #[u] T)):=by
  simp only [execOp,e1,Instr.box,Sem.run_bind,Ei,Result.andThen_ok,Sem.run_pure,hcs]
 unfold Oper.wp
 rw [hrun]
 have hle:=s.le_mk' #[u] T 0 hT'
 refine hK _ _ _ h ⟨s.mk' #[u] T 0,_,rfl,hst.new (dst:=some t) (r:=.ptr hp.length 0) (ow:=.var T ([d].map .d)) hle (Fp (by simpa [PA] using hd)) (u:=.pointer (some ⟨s.w.heap.size,0,none⟩)) ⟨Nat.lt_succ_self hp.length,s.w.heap.size,by simp,rfl⟩ ?_ fun b hb=>by cases hb;exact Nat.le_refl _⟩
 refine ⟨s.w.heap.size,#[u],by simp,Nat.zero_le _,heap_alloc_new s.w _,by simp,hT',fun k hk=>absurd (hst.ok.lt _ _ hk) (Nat.lt_irrefl _),fun k av hk=>?_⟩
 cases k with
 | zero=>cases hk;exact ⟨u,by simp,h1v,d.st hv hle.chg⟩
 | succ k=>cases hk
end
theorem Vh (l : Ae) (n:Int) (cd:Abs Tryz.prog 55 [BG l,ex (.int .i64 n)] (ex (.int .i64 (-1)))):Abs Tryz.prog 56 [BG l,ex (.int .i64 n)] (ex (.int .i64 0)):=by
 refine Ab Tryz.func56 fun s0=>?_
 rw [Tryz.ntmps56]
 refine Y1<|Wa<|Y0<|Y1<|Wm<|Wm ?_;refine Wq (Ao (cd)) ?_;refine Wa<|Y0<|Aa<|Y1<|Wm ?_;refine Wq Am ?_;apply Y0;refine Ct ?_;refine Y1<|Wa<|Y0 ?_;apply Aw;apply AW
 exact Yf
theorem Vi (l : Ae) (n:Int) (Dg M:Nat) (F:Nat→Int) (cd:Abs Tryz.prog 55 [BG l,ex (.int .i64 n)] (ex (.int .i64 (Dg:Nat)))) (cc:Abs Tryz.prog 58 [BG l,ex (.int .i64 n),ex (.int .i64 (Dg:Nat))] (nD M F)) (hM:M≤100000) (hb:∀ k,k≤M→-9223372036854775808≤Bv k F∧Bv k F≤9223372036854775807):Abs Tryz.prog 56 [BG l,ex (.int .i64 n)] (ex (.int .i64 (Bv M F))):=by
 have hD:¬ ((Dg:Nat):Int)<0:=by omega
 refine Ab Tryz.func56 fun s0=>?_
 rw [Tryz.ntmps56]
 refine Y1<|Wa<|Y0<|Y1<|Wm<|Wm ?_;refine Wq (Ao (cd)) ?_;refine Wa<|Y0<|Aa<|Y1<|Wm ?_;refine Wq Aq ?_;apply Y0;refine Cf ?_;refine Ys<|Y1<|Wa<|Y0<|Aa<|Y1<|Wm<|Wm<|Wm ?_;refine Wq (Ao (cc)) ?_;refine Wq (Fi rfl (Ac rfl)) ?_;refine Wm<|Y0<|AWp.block ?_
 refine AJ (fun mz σ=>∃ k,k≤M∧mz = M - k∧σ = ⟨[(6,.d (ex (.int .i64 (Bv k F)))),(17,.d (nD M F)),(18,.d (ex (.int .i64 (M:Nat)))),(19,.d (ex (.int .i64 (k:Nat))))],[]⟩) ?le ⟨0,by omega,rfl,rfl⟩ ?round
 case le=>exact Ag (by exact Yd<|Yd<|Yd<|Yd<|FrLe.nil) (by exact HpLe.nil)
 case round =>
  rintro mz _ ⟨k,hk,rfl,rfl⟩
  by_cases hlt:k<M
  ·have h1:=hb (k+1) hlt
   rw [Bv] at h1
   apply Y1;refine Wq Am ?_;refine Y0<|Aa ?_;refine Ct ?_;refine Ys<|Aa<|AWp.block<|Y1 ?_;refine Wq (KR (k:=k) rfl (ao rfl) (Ac rfl) (Ac rfl) rfl hlt) ?_;refine Wq BE ?_;refine Wa<|Y0<|AWp.region<|Wm<|Wm ?_;refine Wq EC ?_;refine Wa ?_;apply AWl.nil;apply Ai;refine Yn<|AWp.region ?_;refine Wq AH ?_;refine Wm ?_;apply AWl.nil
   refine ALoop.next (M - (k+1)) (by omega) ⟨k+1,by omega,rfl,rfl⟩ ?_
   exact Ag (by exact Yd<|Yd<|Yd<|Yd<|FrLe.nil) (by exact HpLe.nil)
  ·obtain rfl : k = M := by omega
   apply Y1;refine Wq Aq ?_;refine Y0<|Aa ?_;refine Cf ?_;apply AG;apply Az;apply AA;apply AB;refine Yn<|Y1<|Wm<|Wa<|Y0 ?_;apply Aw
   exact Yf
theorem Ms (l : Ae) (n d:Int) (ck:Abs Tryz.prog 46 [BG l,ex (.int .i64 n)] (ex (.int .i64 0))) (cd:Abs Tryz.prog 55 [BG l,ex (.int .i64 n)] (ex (.int .i64 d))):Abs Tryz.prog 22 [BG l,ex (.int .i64 n)] (DE [ex (.int .i64 d),ex (.int .i64 0)]):=by
 refine Ab Tryz.func22 fun s0=>?_
 rw [Tryz.ntmps22]
 refine Y1<|Wa<|Wa<|Y0<|Aa<|Y1<|Wm<|Wm ?_;refine Wq (Ao (ck)) ?_;refine Wa<|Y0<|Y1<|Wm ?_;refine Wq Aq ?_;apply Y0;refine Cf ?_;refine Ys<|Y1<|Wm<|Wm ?_;refine Wq (Ao (cd)) ?_;refine Wa<|Wa<|Y0 ?_;apply Aw
 exact BP (CN (ResV.tmp rfl rfl) (ResV.tmp rfl rfl) (Cp (D.le.refl _) (D.le.refl _)))
theorem Wb (l : Ae) (n d:Int) (ck:Abs Tryz.prog 46 [BG l,ex (.int .i64 n)] (ex (.int .i64 0))) (cd:Abs Tryz.prog 56 [BG l,ex (.int .i64 n)] (ex (.int .i64 d))):Abs Tryz.prog 24 [BG l,ex (.int .i64 n)] (DE [ex (.int .i64 d),ex (.int .i64 0)]):=by
 refine Ab Tryz.func24 fun s0=>?_
 rw [Tryz.ntmps24]
 refine Y1<|Wa<|Wa<|Y0<|Aa<|Y1<|Wm<|Wm ?_;refine Wq (Ao (ck)) ?_;refine Wa<|Y0<|Y1<|Wm ?_;refine Wq Aq ?_;apply Y0;refine Cf ?_;refine Ys<|Y1<|Wm<|Wm ?_;refine Wq (Ao (cd)) ?_;refine Wa<|Wa<|Y0 ?_;apply Aw
 exact BP (CN (ResV.tmp rfl rfl) (ResV.tmp rfl rfl) (Cp (D.le.refl _) (D.le.refl _)))
theorem ZQ (l : Ae) (n d:Int) (hd:d<0∨64<d) (ck:Abs Tryz.prog 46 [BG l,ex (.int .i64 n)] (ex (.int .i64 0))):Abs Tryz.prog 16 [BG l,ex (.int .i64 n),ex (.int .i64 d)] (DE [ex (.int .i64 0),ex (.int .i64 1)]):=by
 rcases hd with hd | hd
 ·refine Ab Tryz.func16 fun s0 => ?_
  rw [Tryz.ntmps16]
  refine Y1<|Wa<|Wa<|Y0<|Aa<|Y1<|Wm<|Wm ?_;refine Wq (Ao (ck)) ?_;refine Wa<|Y0<|Y1<|Wm ?_;refine Wq Aq ?_;apply Y0;refine Cf ?_;refine Ys<|Aa<|Y1<|Wm ?_;refine Wq Am ?_;refine Wm ?_;refine Ws ?_;refine Ws ?_;refine Wq AT ?_;apply Y0;refine Ct ?_;refine Y1<|Wa<|Wa<|Y0 ?_;apply Aw;apply AW
  exact BP (CN (ResV.tmp rfl rfl) (ResV.tmp rfl rfl) (Cp (D.le.refl _) (D.le.refl _)))
 ·have h0 : ¬ d < 0 := by omega
  refine Ab Tryz.func16 fun s0=>?_
  rw [Tryz.ntmps16]
  refine Y1<|Wa<|Wa<|Y0<|Aa<|Y1<|Wm<|Wm ?_;refine Wq (Ao (ck)) ?_;refine Wa<|Y0<|Y1<|Wm ?_;refine Wq Aq ?_;apply Y0;refine Cf ?_;refine Ys<|Aa<|Y1<|Wm ?_;refine Wq Aq ?_;refine Wm ?_;refine Wg Af ?_;refine Wg Am ?_;refine Wq By ?_;apply Y0;refine Ct ?_;refine Y1<|Wa<|Wa<|Y0 ?_;apply Aw;apply AW
  exact BP (CN (ResV.tmp rfl rfl) (ResV.tmp rfl rfl) (Cp (D.le.refl _) (D.le.refl _)))
theorem Tn (l : Ae) (n d:Int) (hd:0<d) (ck:Abs Tryz.prog 46 [BG l,ex (.int .i64 n)] (ex (.int .i64 0))) (cd:Abs Tryz.prog 55 [BG l,ex (.int .i64 n)] (ex (.int .i64 d))):Abs Tryz.prog 28 [BG l,ex (.int .i64 n)] (DE [ex (.slice none 0 0),ex (.int .i64 160)]):=by
 refine Ab Tryz.func28 fun s0=>?_
 rw [Tryz.ntmps28]
 apply Y1;refine Sm (ao rfl) One.sl rfl rfl rfl rfl ?_;refine Sn (ao rfl) rfl rfl rfl rfl rfl ?_;refine Wa<|Wa<|Y0<|Aa<|Y1 ?_;refine Wq BO ?_;refine Wq BO ?_;refine Wq (Ao (ck)) ?_;refine Wa<|Y0<|Y1<|Wm ?_;refine Wq Aq ?_;apply Y0;refine Cf ?_;refine Ys<|Aa<|Y1 ?_;refine Wq BO ?_;refine Wq BO ?_;refine Wq (Ao (cd)) ?_;refine Wq Am ?_;apply Y0;refine Ct ?_;refine Y1<|Wa<|Wa<|Y0 ?_;apply Aw;apply AW
 exact BP (CN (ResV.tmp rfl rfl) (ResV.tmp rfl rfl) (Cp (D.le.refl _) (D.le.refl _)))
abbrev Yw (s : Nat):Ow:=.var 5 [.d (ex (.int .u8 (s:Nat)))]
def IF (s t:Nat):Bool:=(s != t) && EW s t
theorem OE (s t:Nat) (hs:s<256) (ht:t<256):Con Tryz.prog 54 [.d (ex (.int .u8 (t:Nat))),.ptr 0 0] [Yw s] [] (fun r hp'=>r = .d (ex (.bool (IF s t)))∧hp' = [Yw s,.dead]):=by
 by_cases h:s = t
 ·subst h
  have e:IF s s = false:=by simp [IF]
  rw [e]
  refine Bu Tryz.func54 rfl (As Tryz.func54 (by kernel_rfl) (by kernel_rfl)) rfl fun s0 pv0=>?_
  rw [Tryz.ntmps54]
  refine Y1<|Wa<|Y0<|Y1 ?_;refine Wq GX ?_;refine Wm ?_;refine Wq Aq ?_;refine Wm ?_;refine Ws ?_;refine Ws ?_;refine Ws ?_;refine Ws ?_;refine Wq By ?_;refine Wa<|Y0 ?_;apply Aw
  refine Bk (RetsA.one rfl) rfl ?_ rfl
  exact ⟨rfl,rfl⟩
 ·have h1 : ¬ ((s : Nat) : Int) = ((t : Nat) : Int) := by omega
  have e:IF s t = EW s t:=by simp [IF,h]
  rw [e]
  refine Bu Tryz.func54 rfl (As Tryz.func54 (by kernel_rfl) (by kernel_rfl)) rfl fun s0 pv0=>?_
  rw [Tryz.ntmps54]
  refine Y1<|Wa<|Y0<|Y1 ?_;refine Wq GX ?_;refine Wm ?_;refine Wq Am ?_;refine Wm ?_;refine Wg GX ?_;refine Wg Af ?_;refine Wg (KT (a:=s) (b:=t) (ao rfl) (ao rfl) hs ht) ?_;refine Wg VF ?_;refine Wq AT ?_;refine Wa<|Y0 ?_;apply Aw
  refine Bk (RetsA.one rfl) rfl ?_ rfl
  exact ⟨rfl,rfl⟩
theorem QH (L : List Nat) (s z:Nat) (hs:s<256) (hL:∀ k,k<L.length→L.getD k default<256) (hl:L.length≤1000) (hz:z≤L.length) (hp:∀ k,k<z→IF s (L.getD k default) = false) (he:z<L.length→IF s (L.getD z default) = true):Con Tryz.prog 103 [.d (Nz L),.fn 54 [0]] [Yw s] [] (fun r hp'=>r = .d (ex (.int .i64 (if z<L.length then (z:Nat) else -1)))∧∃ tl,hp' = Yw s :: .dead :: tl∧(tl = []∨tl = [.dead])):=by
 refine Bu Tryz.func103 rfl (As Tryz.func103 (by kernel_rfl) (by kernel_rfl)) rfl fun s0 pv0=>?_
 rw [Tryz.ntmps103]
 refine Y1<|Wa<|Y0<|Aa<|Y1<|Wm ?_;refine Wq BD ?_;refine Wm<|Y0<|AWp.block ?_
 refine AJ (fun mz σ=>∃ k,k≤z∧mz = z - k∧σ = ⟨[(0,.d (Nz L)),(1,.fn 54 [0]),(6,.d (Nz L)),(7,.d (ex (.int .i64 (L.length:Nat)))),(8,.d (ex (.int .i64 (k:Nat))))],[Yw s,.pin [(pv0,.own 0)]]⟩) ?le ⟨0,by omega,rfl,rfl⟩ ?round
 case le=>exact Ag (by exact Yd<|FrLe.cons rfl (AVle.fn rfl)<|Yd<|Yd<|Yd<|FrLe.nil) (by exact HpLe.cons (BJ rfl)<|HpLe.cons (Bc rfl)<|HpLe.nil)
 case round =>
  rintro mz _ ⟨k,hk,rfl,rfl⟩
  by_cases hlt:k<z
  ·have hlt' : k < L.length := by omega
   have hk:=hp k hlt
   apply Y1;refine Wq Am ?_;refine Y0<|Aa ?_;refine Ct ?_;refine Ys<|Aa<|AWp.block<|Y1<|Wm<|Wa<|Y0<|Y1<|Wm<|Wm<|Wm ?_;refine Wq AN ?_;refine Wq BE ?_
   refine Be [0] [0] (OE s (L.getD k default) hs (hL k hlt')) (by first | exact Or.inl rfl | exact Or.inr ⟨by decide,rfl,by repeat (first | exact AvoidR.nil | refine AF rfl ?_ | refine AvoidR.dead ?_ | refine AM ?_ | refine AvoidR.obj ?_ | refine AD ?_ | refine AE rfl ?_ | refine AvoidR.pin rfl ?_)⟩) rfl rfl (by first | exact .inl ⟨rfl,rfl⟩ | exact .inr ⟨rfl,rfl⟩) (by repeat (first | exact ArgsC.nil | refine ArgsC.d rfl (D.le.refl _) ?_ | refine AR rfl rfl ?_)) (by decide) (by repeat (first | exact SelR.nil | refine SelR.var rfl ?_ | refine SelR.obj rfl ?_ | refine Bb rfl ?_ | refine AP rfl rfl rfl ?_)) (by repeat (first | exact trivial | refine ⟨⟨_,_,rfl⟩,?_⟩)) rfl ?_
   rintro _ _ ⟨rfl,rfl⟩
   refine ⟨_,_,_,(by first | exact AVRen.d | exact AVRen.own rfl | exact AVRen.ptr rfl | exact AVRen.fn rfl),(by repeat (first | exact SetR.nil | (apply SetR.cons;(first | exact OwRen.dead | exact Aj | exact OwRen.obj | exact Ar | exact Ak rfl);exact rfl))),(by repeat (first | exact AppR.nil | (apply AppR.cons;(first | exact OwRen.dead | exact Aj | exact OwRen.obj | exact Ar | exact Ak rfl);exact rfl))),?_⟩
   try simp only [AZ,Bh]
   rw [hk]
   apply Y0;refine Cf ?_;apply Bd;apply Ai;refine Yn<|AWp.region ?_;refine Wq AH ?_;refine Wm ?_;apply AWl.nil
   refine ALoop.next (z - (k+1)) (by omega) ⟨k+1,by omega,rfl,rfl⟩ ?_
   exact Ag (by exact Yd<|FrLe.cons rfl (AVle.fn rfl)<|Yd<|Yd<|Yd<|FrLe.nil) (by exact HpLe.cons (BJ rfl)<|HpLe.cons (Bc rfl)<|HpLe.nil)
  ·obtain rfl : k = z := by omega
   by_cases hlt:k<L.length
   ·have hk:=he hlt
    apply Y1;refine Wq Am ?_;refine Y0<|Aa ?_;refine Ct ?_;refine Ys<|Aa<|AWp.block<|Y1<|Wm<|Wa<|Y0<|Y1<|Wm<|Wm<|Wm ?_;refine Wq AN ?_;refine Wq BE ?_
    refine Be [0] [0] (OE s (L.getD k default) hs (hL k hlt)) (by first | exact Or.inl rfl | exact Or.inr ⟨by decide,rfl,by repeat (first | exact AvoidR.nil | refine AF rfl ?_ | refine AvoidR.dead ?_ | refine AM ?_ | refine AvoidR.obj ?_ | refine AD ?_ | refine AE rfl ?_ | refine AvoidR.pin rfl ?_)⟩) rfl rfl (by first | exact .inl ⟨rfl,rfl⟩ | exact .inr ⟨rfl,rfl⟩) (by repeat (first | exact ArgsC.nil | refine ArgsC.d rfl (D.le.refl _) ?_ | refine AR rfl rfl ?_)) (by decide) (by repeat (first | exact SelR.nil | refine SelR.var rfl ?_ | refine SelR.obj rfl ?_ | refine Bb rfl ?_ | refine AP rfl rfl rfl ?_)) (by repeat (first | exact trivial | refine ⟨⟨_,_,rfl⟩,?_⟩)) rfl ?_
    rintro _ _ ⟨rfl,rfl⟩
    refine ⟨_,_,_,(by first | exact AVRen.d | exact AVRen.own rfl | exact AVRen.ptr rfl | exact AVRen.fn rfl),(by repeat (first | exact SetR.nil | (apply SetR.cons;(first | exact OwRen.dead | exact Aj | exact OwRen.obj | exact Ar | exact Ak rfl);exact rfl))),(by repeat (first | exact AppR.nil | (apply AppR.cons;(first | exact OwRen.dead | exact Aj | exact OwRen.obj | exact Ar | exact Ak rfl);exact rfl))),?_⟩
    try simp only [AZ,Bh]
    rw [hk]
    apply Y0;refine Ct ?_;refine Y1<|Wm<|Wa<|Y0 ?_;apply Aw;apply BH;apply AW;apply DY;apply BH;apply AW
    refine Bk (RetsA.one rfl) rfl ?_ rfl
    exact ⟨by rw [if_pos hlt],_,rfl,.inr rfl⟩
   ·apply Y1;refine Wq Aq ?_;refine Y0<|Aa ?_;refine Cf ?_;apply AG;apply Az;apply AA;apply AB;refine Yn<|Y1<|Wa<|Y0 ?_;apply Aw
    refine Bk (RetsA.one rfl) rfl ?_ rfl
    exact ⟨by rw [if_neg hlt],_,rfl,.inl rfl⟩
theorem Vw (p : Nat→Bool) (l:List Nat):∃ z,z≤l.length∧(∀ k,k<z→p (l.getD k default) = false)∧(z<l.length→p (l.getD z default) = true)∧l.any p = decide (z<l.length):=by
 induction l with
 | nil=>exact ⟨0,Nat.le_refl 0,fun k hk=>absurd hk (by omega),fun h=>absurd h (by simp),rfl⟩
 | cons a l ih =>
  cases ha:p a with
  | true=>exact ⟨0,by simp,fun k hk=>absurd hk (by omega),fun _=>ha,by simp [ha]⟩
  | false =>
   obtain ⟨z,h1,h2,h3,h4⟩:=ih
   refine ⟨z+1,by simpa using h1,fun k hk=>?_,fun h=>h3 (by simpa using h),by simp [ha,h4]⟩
   cases k with
   | zero=>exact ha
   | succ k=>exact h2 k (by omega)
theorem TJ (L : List Nat) (s:Nat) (hs:s<256) (hL:∀ k,k<L.length→L.getD k default<256) (hl:L.length≤1000):Con Tryz.prog 53 [.d (Nz L),.fn 54 [0]] [Yw s] [] (fun r hp'=>r = .d (ex (.bool (L.any (IF s))))∧hp' = [Yw s,.dead,.dead]):=by
 obtain ⟨z,h1,h2,h3,h4⟩:=Vw (IF s) L
 rw [h4]
 have c:=(QH L s z hs hL hl h1 h2 h3).mono (Q':=fun r hp'=>r = .d (ex (.int .i64 (if z<L.length then (z:Nat) else -1)))∧∃ tl,hp' = Yw s :: .dead :: tl) fun r hp' ⟨q1,tl,q2,_⟩=>⟨q1,tl,q2⟩
 have c:=Pt (s:=s) c
 by_cases hz:z<L.length
 ·rw [if_pos hz] at c
  rw [decide_eq_true hz]
  refine Bu Tryz.func53 rfl (As Tryz.func53 (by kernel_rfl) (by kernel_rfl)) rfl fun s0 pv0=>?_
  rw [Tryz.ntmps53]
  refine Y1<|Wa<|Y0<|Y1<|Wm<|Wm ?_
  refine Be [0] [] (c) (by first | exact Or.inl rfl | exact Or.inr ⟨by decide,rfl,by repeat (first | exact AvoidR.nil | refine AF rfl ?_ | refine AvoidR.dead ?_ | refine AM ?_ | refine AvoidR.obj ?_ | refine AD ?_ | refine AE rfl ?_ | refine AvoidR.pin rfl ?_)⟩) rfl rfl (by first | exact .inl ⟨rfl,rfl⟩ | exact .inr ⟨rfl,rfl⟩) (by repeat (first | exact ArgsC.nil | refine ArgsC.d rfl (D.le.refl _) ?_ | refine AR rfl rfl ?_)) (by decide) (by repeat (first | exact SelR.nil | refine SelR.var rfl ?_ | refine SelR.obj rfl ?_ | refine Bb rfl ?_ | refine AP rfl rfl rfl ?_)) (by repeat (first | exact trivial | refine ⟨⟨_,_,rfl⟩,?_⟩)) rfl ?_
  rintro _ _ ⟨rfl,rfl⟩
  refine ⟨_,_,_,(by first | exact AVRen.d | exact AVRen.own rfl | exact AVRen.ptr rfl | exact AVRen.fn rfl),(by repeat (first | exact SetR.nil | (apply SetR.cons;(first | exact OwRen.dead | exact Aj | exact OwRen.obj | exact Ar | exact Ak rfl);exact rfl))),(by repeat (first | exact AppR.nil | (apply AppR.cons;(first | exact OwRen.dead | exact Aj | exact OwRen.obj | exact Ar | exact Ak rfl);exact rfl))),?_⟩
  try simp only [AZ,Bh]
  refine Wq Am ?_;refine Wa<|Y0 ?_;apply Aw
  refine Bk (RetsA.one rfl) rfl ?_ rfl
  exact ⟨rfl,rfl⟩
 ·rw [if_neg hz] at c
  rw [decide_eq_false hz]
  refine Bu Tryz.func53 rfl (As Tryz.func53 (by kernel_rfl) (by kernel_rfl)) rfl fun s0 pv0=>?_
  rw [Tryz.ntmps53]
  refine Y1<|Wa<|Y0<|Y1<|Wm<|Wm ?_
  refine Be [0] [] (c) (by first | exact Or.inl rfl | exact Or.inr ⟨by decide,rfl,by repeat (first | exact AvoidR.nil | refine AF rfl ?_ | refine AvoidR.dead ?_ | refine AM ?_ | refine AvoidR.obj ?_ | refine AD ?_ | refine AE rfl ?_ | refine AvoidR.pin rfl ?_)⟩) rfl rfl (by first | exact .inl ⟨rfl,rfl⟩ | exact .inr ⟨rfl,rfl⟩) (by repeat (first | exact ArgsC.nil | refine ArgsC.d rfl (D.le.refl _) ?_ | refine AR rfl rfl ?_)) (by decide) (by repeat (first | exact SelR.nil | refine SelR.var rfl ?_ | refine SelR.obj rfl ?_ | refine Bb rfl ?_ | refine AP rfl rfl rfl ?_)) (by repeat (first | exact trivial | refine ⟨⟨_,_,rfl⟩,?_⟩)) rfl ?_
  rintro _ _ ⟨rfl,rfl⟩
  refine ⟨_,_,_,(by first | exact AVRen.d | exact AVRen.own rfl | exact AVRen.ptr rfl | exact AVRen.fn rfl),(by repeat (first | exact SetR.nil | (apply SetR.cons;(first | exact OwRen.dead | exact Aj | exact OwRen.obj | exact Ar | exact Ak rfl);exact rfl))),(by repeat (first | exact AppR.nil | (apply AppR.cons;(first | exact OwRen.dead | exact Aj | exact OwRen.obj | exact Ar | exact Ak rfl);exact rfl))),?_⟩
  try simp only [AZ,Bh]
  refine Wq Aq ?_;refine Wa<|Y0 ?_;apply Aw
  refine Bk (RetsA.one rfl) rfl ?_ rfl
  exact ⟨rfl,rfl⟩
theorem Mq (l : Ae) (n:Nat) (hn:n≤8) (hl:l.length≤1000) (ck:Abs Tryz.prog 46 [BG l,ex (.int .i64 (n:Nat))] (ex (.int .i64 0))):Abs Tryz.prog 18 [BG l,ex (.int .i64 (n:Nat))] (DE [Nz (MM l (2 ^ n)),ex (.int .i64 0)]):=by
 have h256:=Uo hn
 have ci:=LS l n hn hl
 have hL:∀ k,k<(Df l (2 ^ n)).length→(Df l (2 ^ n)).getD k default<256:=fun k hk=>by
  have:(Df l (2 ^ n)).getD k default∈Df l (2 ^ n):=by
   rw [List.getD_eq_getElem?_getD,List.getElem?_eq_getElem hk]
   exact List.getElem_mem hk
  have:=RO this
  omega
 have hlen:=Js l (2 ^ n)
 unfold MM
 generalize Df l (2 ^ n) = L at ci hL hlen ⊢
 have hfl:∀ k,((L.take k).filter fun s => !L.any (IF s)).length≤k:=fun k=>by
  have h1:=List.length_filter_le (fun s => !L.any (IF s)) (L.take k)
  rw [List.length_take] at h1
  omega
 refine Ab Tryz.func18 fun s0=>?_
 rw [Tryz.ntmps18]
 refine Y1<|Wa<|Wa<|Y0<|Aa<|Y1<|Wm<|Wm ?_;refine Wq (Ao (ck)) ?_;refine Wa<|Y0<|Y1<|Wm ?_;refine Wq Aq ?_;apply Y0;refine Cf ?_;refine Ys<|Y1<|Wm<|Wm ?_;refine Wq (Ao (ci)) ?_;refine Wa<|Y0<|Y1<|Wa<|Y0<|Aa<|Y1<|Wm ?_;refine Wq BD ?_;refine Wm<|Y0<|AWp.block ?_
 refine HG 8 5 1 rfl (by decide) (by decide) rfl rfl ?_
 skip
 refine AJ (fun mz σ=>∃ k,k≤L.length∧mz = L.length - k∧σ = ⟨[(7,.d (Nz L)),(8,.own 0),(20,.d (Nz L)),(21,.d (ex (.int .i64 (L.length:Nat)))),(22,.d (ex (.int .i64 (k:Nat))))],[.row 5 1 (((L.take k).filter fun s => !L.any (IF s)).map fun s=>[ex (.int .u8 (s:Nat))])]⟩) ?le ⟨0,by omega,rfl,rfl⟩ ?round
 case le=>exact Ag (by exact Yd<|FrLe.cons rfl (AVle.own rfl)<|Yd<|Yd<|Yd<|FrLe.nil) (by exact Yr<|HpLe.nil)
 case round =>
  rintro mz _ ⟨k,hk,rfl,rfl⟩
  by_cases hlt:k<L.length
  ·have hk:=hL k hlt
   have hle:=hfl k
   apply Y1;refine Wq Am ?_;refine Y0<|Aa ?_;refine Ct ?_;refine Ys<|Aa<|AWp.block<|Y1 ?_;refine Wq AN ?_;refine Wq BE ?_;refine Al ?_;refine Iq (ao rfl) (ao rfl) rfl (Ac rfl) (by first | exact Dw rfl | exact One.sl | exact Fq) rfl rfl ?_;refine Y0<|Y1<|Wm ?_;refine Wq (Fh [1] rfl) ?_
   refine Be [1] [] (TJ L (L.getD k default) hk hL (by omega)) (by first | exact Or.inl rfl | exact Or.inr ⟨by decide,rfl,by repeat (first | exact AvoidR.nil | refine AF rfl ?_ | refine AvoidR.dead ?_ | refine AM ?_ | refine AvoidR.obj ?_ | refine AD ?_ | refine AE rfl ?_ | refine AvoidR.pin rfl ?_)⟩) rfl rfl (by first | exact .inl ⟨rfl,rfl⟩ | exact .inr ⟨rfl,rfl⟩) (by repeat (first | exact ArgsC.nil | refine ArgsC.d rfl (D.le.refl _) ?_ | refine AR rfl rfl ?_)) (by decide) (by repeat (first | exact SelR.nil | refine SelR.var rfl ?_ | refine SelR.obj rfl ?_ | refine Bb rfl ?_ | refine AP rfl rfl rfl ?_)) (by repeat (first | exact trivial | refine ⟨⟨_,_,rfl⟩,?_⟩)) rfl ?_
   rintro _ _ ⟨rfl,rfl⟩
   refine ⟨_,_,_,(by first | exact AVRen.d | exact AVRen.own rfl | exact AVRen.ptr rfl | exact AVRen.fn rfl),(by repeat (first | exact SetR.nil | (apply SetR.cons;(first | exact OwRen.dead | exact Aj | exact OwRen.obj | exact Ar | exact Ak rfl);exact rfl))),(by repeat (first | exact AppR.nil | (apply AppR.cons;(first | exact OwRen.dead | exact Aj | exact OwRen.obj | exact Ar | exact Ak rfl);exact rfl))),?_⟩
   try simp only [AZ,Bh,Rp]
   cases hb:L.any (IF (L.getD k default)) with
   | true =>
    refine Wq DC ?_;apply Y0;refine Cf ?_;apply Bd;apply Ai;refine Yn<|AWp.region ?_;refine Wq AH ?_;refine Wm ?_;apply AWl.nil
    refine ALoop.next (L.length - (k+1)) (by omega) ⟨k+1,by omega,rfl,rfl⟩ ?_
    exact Ag (by exact Yd<|FrLe.cons rfl (AVle.own rfl)<|Yd<|Yd<|Yd<|FrLe.nil) (by (refine HpLe.cons (Ey (by rw [It hlt,List.filter_append,List.filter_cons,hb];simp)) ?_);exact HpLe.nil)
   | false =>
    refine Wq DC ?_;apply Y0;refine Ct ?_;refine AWp.region<|Wm ?_;refine Wq BO ?_;(refine Dj rfl rfl ?_;(refine DK (Ac rfl) (Ac rfl) rfl rfl rfl rfl rfl ?_;(repeat ((first | refine ⟨_,Bz (ao rfl),?_⟩ | refine ⟨_,Po rfl,?_⟩);refine ⟨_,rfl,?_⟩));refine ⟨_,rfl,?_⟩));(refine Nw (ao rfl) rfl rfl (Ac rfl) (Ac rfl) rfl rfl (by simp [Cu];omega) (by simp [Cu];omega) rfl (by first | ((repeat (first | exact PlainHp.nil | refine PlainHp.var ?_ | refine Di ?_ | refine PlainHp.dead ?_ | refine PlainHp.obj ?_ | refine PlainHp.pin rfl ?_ | refine CQ rfl ?_));done) | fail) rfl ?_);refine Wa ?_;apply AWl.nil;apply Ai;refine Yn<|AWp.region ?_;refine Wq AH ?_;refine Wm ?_;apply AWl.nil
    refine ALoop.next (L.length - (k+1)) (by omega) ⟨k+1,by omega,rfl,rfl⟩ ?_
    exact Ag (by exact Yd<|FrLe.cons rfl (AVle.own rfl)<|Yd<|Yd<|Yd<|FrLe.nil) (by (refine HpLe.cons (Ey (by rw [It hlt,List.filter_append,List.filter_cons,hb];exact QW _ _)) ?_);exact HpLe.nil)
  ·obtain rfl : k = L.length := by omega
   apply Y1;refine Wq Aq ?_;refine Y0<|Aa ?_;refine Cf ?_;apply AG;apply Az;apply AA;apply AB;refine Yn<|Y1<|Wm<|Wa<|Wa<|Y0 ?_;apply Aw
   rw [List.take_length]
   exact BP (CN (ResV.tmp rfl rfl) (ResV.tmp rfl rfl) (Cp (D.le.refl _) (D.le.refl _)))
def CJ (F : Nat→Rat) (j:Nat):List D:=CG (F j)
theorem EL (F : Nat→Rat) (j:Nat):(CJ F j).length = 4:=DS _
def DD (n : Nat) (F:Nat→Rat):D:=rD 71 4 (CJ F) n
def zz : List D:=[ex (.bool false),ex (.slice none 0 0),ex (.bool false),ex (.slice none 0 0)]
abbrev q0 : Rat:=((0:Int):Rat)
def zF (k j:Nat):List D:=if j<k then CG q0 else zz
theorem YK (k j:Nat):(zF k j).length = 4:=by
 unfold zF
 split
 ·exact DS _
 ·rfl
theorem A13 : zF 0 = fun _=>zz:=funext fun j=>if_neg (by omega)
theorem YJ (k : Nat):TS (zF k) k (CG q0) = zF (k+1):=by
 funext j
 unfold TS zF
 by_cases h:j = k
 ·rw [if_pos h,if_pos (by omega)]
 ·rw [if_neg h]
  by_cases h2:j<k
  ·rw [if_pos h2,if_pos (by omega)]
  ·rw [if_neg h2,if_neg (by omega)]
theorem YL (n : Nat):flF (zF n) n = flF (CJ fun _=>q0) n:=SS fun j hj=>if_pos hj
theorem JC (n : Nat) (hn:n≤100000):Con Tryz.prog 113 [.d (ex (.int .i64 (n:Nat)))] [] [] (fun r hp'=>∃ g,r = .d (sX g n n)∧hp' = [.dead,.obj (Bl [⟨g,71,flF (CJ fun _=>q0) n⟩])]):=by
 refine Ge Tryz.func113 rfl (As Tryz.func113 (by kernel_rfl) (by kernel_rfl)) rfl fun s0=>?_
 rw [Tryz.ntmps113]
 refine Y1<|Wa<|Y0<|Y1<|Wm ?_;refine Ye (sz:=4) (c:=n) (ao rfl) (ao rfl) (Ac rfl) (Ac rfl) rfl (by decide) rfl (by omega) rfl rfl rfl rfl (fun g=>rfl) fun g=>?_;refine Wa<|Y0<|Aa<|Y1<|Wm<|Wm<|Y0<|AWp.block ?_
 refine AJ (fun mz σ=>∃ k,k≤n∧mz = n - k∧σ = ⟨[(3,.d (sX g n n)),(7,.d (ex (.int .i64 (n:Nat)))),(8,.d (ex (.int .i64 (k:Nat))))],[.pin [],.obj (Bl [⟨g,71,flF (zF k) n⟩])]⟩) ?le ⟨0,by omega,rfl,rfl⟩ ?round
 case le=>exact Ag (by exact Yd<|Yd<|Yd<|FrLe.nil) (by refine HpLe.cons (Bc rfl) ?_;(refine HpLe.cons (OwLe.obj (by rw [A13];rfl)) ?_);exact HpLe.nil)
 case round =>
  rintro mz _ ⟨k,hk,rfl,rfl⟩
  by_cases hlt:k<n
  ·have hst:SetAt (flF (zF k) n) (k*4) (CG q0) (flF (zF (k+1)) n):=YJ k ▸ SetAt.flF (YK k) (DS _) hlt
   apply Y1;refine Wq Am ?_;refine Y0<|Aa ?_;refine Ct ?_;refine Ys<|Aa<|AWp.block<|Y1<|Wm<|Wa<|Y0<|AWp.region<|Wm<|Wm ?_;refine Wq (Ao (IG 0 (by omega) (by omega))) ?_;refine Wq (CB (k:=k) (ao rfl) (ao rfl) (Ac rfl) (Ac rfl) hlt) ?_;refine Sl (e:=⟨g,71,flF (zF k) n⟩) 1 0 (ao rfl) (ao rfl) rfl rfl (Ac rfl) rfl hst rfl ?_;apply AWl.nil;apply Ai;refine Yn<|AWp.region ?_;refine Wq AH ?_;refine Wm ?_;apply AWl.nil
   refine ALoop.next (n - (k+1)) (by omega) ⟨k+1,by omega,rfl,rfl⟩ ?_
   exact Ag (by exact Yd<|Yd<|Yd<|FrLe.nil) (by exact HpLe.cons (Bc rfl)<|HpLe.cons (OwLe.obj rfl)<|HpLe.nil)
  ·obtain rfl : k = n := by omega
   apply Y1;refine Wq Aq ?_;refine Y0<|Aa ?_;refine Cf ?_;apply AG;apply Az;apply AA;apply AB;refine Yn<|Y1<|Wm<|Wa<|Y0 ?_;apply Aw
   refine Bk (RetsA.one rfl) rfl ?_ rfl
   exact ⟨g,rfl,by rw [YL]⟩
section
variable {P : Program} {hp:List Ow} {arg:Operand→AV} {dd:Option Tmp} {ty:TypeId} {ps:String} {af:Array Edge} {gd:Option (Nat × Bool)}
theorem Um {r k:Nat} (h:k<r):(List.range r).getD k default = k:=by
 rw [List.getD_eq_getElem?_getD,List.getElem?_range h];rfl
theorem Np {x y:Operand} {t:TypeId} {e n b n' b' T sz r k:Nat} {d:TypeDesc} {z z':Value} {F:Nat→List D} {κ:IntKind} (hx:DZ hp (arg x) = some (rD T sz F r)) (hy:arg y = .d (ex (.int κ ((k:Nat):Int)))) (ht:Tab P t (.slice e) n b z) (he:Tab P e d n' b' z') (hsz:n' = sz) (hk:k<r):Quiet P hp ⟨dd,.indexAddr t x y,ty,ps,af,gd⟩ arg (.d (Ig T (F k))):=by
 have:=GY (dd:=dd) (ty:=ty) (ps:=ps) (af:=af) (gd:=gd) hx hy ht he hsz (by simpa using hk)
 rwa [Um hk] at this
theorem Dt {x : Operand} {t:TypeId} {e n b T sz r:Nat} {z:Value} {F:Nat→List D} (hx:DZ hp (arg x) = some (rD T sz F r)) (ht:Tab P t (.slice e) n b z):Quiet P hp ⟨dd,.call { callee:=.builtin .len,args:=#[x],argTypes:=#[t] },ty,ps,af,gd⟩ arg (.d (ex (.int .i64 (r:Nat)))):=by
 have:=In (dd:=dd) (ty:=ty) (ps:=ps) (af:=af) (gd:=gd) hx ht
 rwa [List.length_range] at this
end
def Ew (H : Nat→Rat) (c:Rat) (G:Nat→Rat) (k i j:Nat):Rat:=if k≤j∧j<k+i then H j+c*G (j - k) else H j
theorem Md (H : Nat→Rat) (c:Rat) (G:Nat→Rat) (k:Nat):Ew H c G k 0 = H:=funext fun j=>if_neg (by omega)
theorem Sa (H : Nat→Rat) (c:Rat) (G:Nat→Rat) (k i:Nat):Ew H c G k i (i+k) = H (i+k):=if_neg (by omega)
theorem Tk (H : Nat→Rat) (c:Rat) (G:Nat→Rat) (k i:Nat):TS (CJ (Ew H c G k i)) (i+k) (CG (Ew H c G k i (i+k)+c*G i)) = CJ (Ew H c G k (i+1)):=by
 funext j
 unfold TS CJ
 by_cases h:j = i+k
 ·subst h
  rw [if_pos rfl,Sa,Ew,if_pos (by omega),show i+k - k = i by omega]
 ·rw [if_neg h,Ew,Ew]
  by_cases h2:k≤j∧j<k+i
  ·rw [if_pos h2,if_pos (by omega)]
  ·rw [if_neg h2,if_neg (by omega)]
theorem Me {H : Nat→Rat} {c:Rat} {G:Nat→Rat} {k i:Nat} (h:c = 0∨G i = 0):Ew H c G k i = Ew H c G k (i+1):=by
 funext j
 unfold Ew
 by_cases h2:k≤j∧j<k+i
 ·rw [if_pos h2,if_pos (by omega)]
 ·rw [if_neg h2]
  split
  ·have e : j - k = i := by omega
   rw [e]
   rcases h with h | h
   ·rw [h,Rat.zero_mul,Rat.add_zero]
   ·rw [h,Rat.mul_zero,Rat.add_zero]
  ·rfl
theorem Mf {H : Nat→Rat} {c:Rat} {G:Nat→Rat} {k:Nat} (h:c = 0):∀ i,Ew H c G k i = H
 | 0=>Md H c G k
 | i+1=>by rw [← Me (.inl h),Mf h i]
theorem DP {q : Rat}:q.num.sign = 0↔q = 0:=by
 rw [Int.sign_eq_zero_iff_zero,Rat.num_eq_zero]
theorem Pa (g n cap m k S1 S2 S3:Nat) (H G:Nat→Rat) (c:Rat) (hH:∀ j,RSz (H j) S1) (hc:RSz c S2) (hG:∀ j,RSz (G j) S3) (hS:S1+(S2+S3)+1≤4398046511104) (hk:k+m≤n) (hn:n≤100000):Con Tryz.prog 114 [.d (sX g n cap),.d (Ca (CG c)),.d (DD m G),.d (ex (.int .i64 (k:Nat)))] [.obj (Bl [⟨g,71,flF (CJ H) n⟩])] [] (fun r hp'=>r = .d Cl∧hp' = [.obj (Bl [⟨g,71,flF (CJ (Ew H c G k m)) n⟩]),.dead,.var 71 ((CG c).map .d)]):=by
 by_cases h0:c = 0
 ·rw [Mf h0]
  have hs:c.num.sign = 0:=DP.2 h0
  refine Bu Tryz.func114 rfl (As Tryz.func114 (by kernel_rfl) (by kernel_rfl)) rfl fun s0 pv0=>?_
  rw [Tryz.ntmps114]
  apply Y1;refine Bx ?_;refine Y0<|Aa<|Y1 ?_;refine Wq AU ?_;refine Wq (Ao (Ex c)) ?_;refine Wq Am ?_;apply Y0;refine Ct ?_;apply Aw;apply AW
  refine Bk Em rfl ?_ rfl
  exact ⟨rfl,rfl⟩
 ·have hs:¬ c.num.sign = 0:=fun h=>h0 (DP.1 h)
  refine Bu Tryz.func114 rfl (As Tryz.func114 (by kernel_rfl) (by kernel_rfl)) rfl fun s0 pv0=>?_
  rw [Tryz.ntmps114]
  apply Y1;refine Bx ?_;refine Y0<|Aa<|Y1 ?_;refine Wq AU ?_;refine Wq (Ao (Ex c)) ?_;refine Wq Aq ?_;apply Y0;refine Cf ?_;refine Ys<|Y1<|Wm ?_;refine Wq (Dt (F:=CJ G) rfl (Ac rfl)) ?_;refine Wm<|Y0<|AWp.block ?_
  refine AJ (fun mz σ=>∃ i,i≤m∧mz = m - i∧σ = ⟨[(0,.d (sX g n cap)),(3,.d (ex (.int .i64 (k:Nat)))),(5,.ptr 2 0),(13,.d (DD m G)),(14,.d (ex (.int .i64 (m:Nat)))),(15,.d (ex (.int .i64 (i:Nat))))],[.obj (Bl [⟨g,71,flF (CJ (Ew H c G k i)) n⟩]),.pin [(pv0,.own 0)],.var 71 ((CG c).map .d)]⟩) ?lei ⟨0,by omega,rfl,rfl⟩ ?roundi
  case lei=>exact Ag (by exact Yd<|Yd<|Yp<|Yd<|Yd<|Yd<|FrLe.nil) (by exact HpLe.cons (OwLe.obj (by rw [Md]))<|HpLe.cons (Bc rfl)<|Yv<|HpLe.nil)
  case roundi =>
   rintro mz _ ⟨i,hi,rfl,rfl⟩
   by_cases hlti:i<m
   ·have hz : RSz (Ew H c G k i (i + k)) S1 := by rw [Sa]; exact hH _
    have hst:SetAt (flF (CJ (Ew H c G k i)) n) ((i+k)*4) (CG (Ew H c G k i (i+k)+c*G i)) (flF (CJ (Ew H c G k (i+1))) n):=Tk H c G k i ▸ SetAt.flF (EL _) (DS _) (by omega)
    by_cases hgz:G i = 0
    ·have hgs:(G i).num.sign = 0:=DP.2 hgz
     apply Y1;refine Wq Am ?_;refine Y0<|Aa ?_;refine Ct ?_;refine Ys<|Aa<|AWp.block<|Y1<|Wm ?_;refine Wq (Np (F:=CJ G) (k:=i) rfl (ao rfl) (Ac rfl) (Ac rfl) rfl hlti) ?_;refine Wq Br ?_;refine Al ?_;refine Wa ?_;refine Sf ?_;refine Y0<|Y1 ?_;refine Wq AU ?_;refine Wq (Ao (Ex (G i))) ?_;refine Wq Aq ?_;apply Y0;refine Cf ?_;apply Bd;apply Ai;refine Yn<|AWp.region ?_;refine Wq AH ?_;refine Wm ?_;apply AWl.nil
     refine ALoop.next (m - (i+1)) (by omega) ⟨i+1,by omega,rfl,rfl⟩ ?_
     exact Ag (by exact Yd<|Yd<|Yp<|Yd<|Yd<|Yd<|FrLe.nil) (by refine HpLe.cons (OwLe.obj (by rw [Me (.inr hgz)])) ?_;exact HpLe.cons (Bc rfl)<|Yv<|HpLe.nil)
    ·have hgs:¬ (G i).num.sign = 0:=fun h=>hgz (DP.1 h)
     apply Y1;refine Wq Am ?_;refine Y0<|Aa ?_;refine Ct ?_;refine Ys<|Aa<|AWp.block<|Y1<|Wm ?_;refine Wq (Np (F:=CJ G) (k:=i) rfl (ao rfl) (Ac rfl) (Ac rfl) rfl hlti) ?_;refine Wq Br ?_;refine Al ?_;refine Wa ?_;refine Sf ?_;refine Y0<|Y1 ?_;refine Wq AU ?_;refine Wq (Ao (Ex (G i))) ?_;refine Wq Am ?_;apply Y0;refine Ct ?_
     refine Dr [[],[],[],[(24,1),(25,2)],[],[],[],[(28,5),(29,6)],[(27,4),(30,7)],[(31,8)],[],[],[(33,10),(34,11)],[(32,9),(35,12)],[(23,0),(26,3)]] [[],[],[],[1,2],[],[],[],[5,6],[4,5,6,7],[4,5,6,7,8],[],[],[10,11],[4,5,6,7,8,9,10,11,12],[0,1,2,3,4,5,6,7,8,9,10,11,12,13]] ?_
     refine Xq Af ?_;refine Xq Af ?_;refine Xq Af ?_;refine Xq EC ?_;refine Xq Af ?_;refine Xq Af ?_;refine Xq Af ?_;refine Xq EC ?_;refine Xq (CB (k:=i+k) (ah rfl) (ah rfl) (Ac rfl) (Ac rfl) (by omega)) ?_;refine Xq (KQ (e:=⟨g,71,flF (CJ (Ew H c G k i)) n⟩) 0 0 (ah rfl) rfl rfl (Ac rfl) rfl (PartAt.flF (EL _) (by omega))) ?_;refine Xq AU ?_;refine Xq AU ?_;refine Xq (Ao (XV c (G i) S2 S3 hc (hG i) (by omega))) ?_;refine Xq (Ao (Yb (Ew H c G k i (i+k)) (c*G i) S1 (S2+S3) hz (hc.mul (hG i)) hS)) ?_;refine Xq (CB (k:=i+k) (ah rfl) (ah rfl) (Ac rfl) (Ac rfl) (by omega)) ?_;refine ⟨_,rfl,?_⟩
     refine Sl (e:=⟨g,71,flF (CJ (Ew H c G k i)) n⟩) 0 0 (ao rfl) (ao rfl) rfl rfl (Ac rfl) rfl hst rfl ?_;apply AWl.nil;apply Ai;refine Yn<|AWp.region ?_;refine Wq AH ?_;refine Wm ?_;apply AWl.nil
     refine ALoop.next (m - (i+1)) (by omega) ⟨i+1,by omega,rfl,rfl⟩ ?_
     exact Ag (by exact Yd<|Yd<|Yp<|Yd<|Yd<|Yd<|FrLe.nil) (by exact HpLe.cons (OwLe.obj rfl)<|HpLe.cons (Bc rfl)<|Yv<|HpLe.nil)
   ·obtain rfl : i = m := by omega
    apply Y1;refine Wq Aq ?_;refine Y0<|Aa ?_;refine Cf ?_;apply AG;apply Az;apply AA;apply AB
    refine GK Em rfl ?_ rfl
    exact ⟨rfl,rfl⟩
theorem A0e {x : Int} (k:Nat) (hk:1≤k) (h:x.natAbs<BB ^ k):RSz ((x:Int):Rat) k:=by
 refine ⟨EJ h,?_⟩
 show (Av 1).length≤k
 exact Nat.le_trans (EJ (k:=1) (by simp only [BB,Nat.pow_one];omega)) hk
theorem Uk {x : Int} (h0:-1000000≤x) (h1:x≤1000000):RSz ((x:Int):Rat) 1:=A0e 1 (by omega) (by simp only [BB,Nat.pow_one];omega)
theorem Uj {x : Int} (h0:-9223372036854775808≤x) (h1:x≤9223372036854775807):RSz ((x:Int):Rat) 2:=A0e 2 (by omega) (by simp only [BB,Nat.reducePow];omega)
theorem Dh {x : Int} (h0:-1000000≤x) (h1:x≤1000000):(Av x.natAbs).length≤1:=EJ (by simp only [BB,Nat.pow_one];omega)
def La (F : Nat→Rat):Nat→Nat
 | 0=>0
 | n+1=>if F n = 0 then La F n else n+1
theorem JH (F : Nat→Rat):∀ n,La F n≤n
 | 0=>Nat.le_refl 0
 | n+1=>by
  rw [La]
  split
  ·exact Nat.le_succ_of_le (JH F n)
  ·exact Nat.le_refl _
abbrev upO (g : Nat) (F:Nat→Rat) (n:Nat):Ow:=.obj (Bl [⟨g,71,flF (CJ F) n⟩])
theorem Ls (F : Nat→Rat) (n N g c:Nat) (hn:n≤N) (hc:n≤c) (hN:N≤100000):Con Tryz.prog 115 [.d (sX g n c)] [upO g F N] [] (fun r hp'=>r = .d (sX g (La F n) c)∧hp' = [upO g F N,.dead]):=by
 refine Bu Tryz.func115 rfl (As Tryz.func115 (by kernel_rfl) (by kernel_rfl)) rfl fun s0 pv0=>?_
 rw [Tryz.ntmps115]
 refine Y1<|Wa<|Y0<|Y1<|Wm ?_;refine Wq (Ds (ao rfl) (Ac rfl)) ?_;refine Wa<|Y0<|Aa<|AWp.block ?_
 refine AJ (fun mz σ=>∃ m,m≤n∧La F m = La F n∧mz = m∧σ = ⟨[(0,.d (sX g n c)),(3,.d (ex (.int .i64 (m:Nat))))],[upO g F N,.pin [(pv0,.own 0)]]⟩) ?le ⟨n,Nat.le_refl n,rfl,rfl,rfl⟩ ?round
 case le=>exact Ag (by exact Yd<|Yd<|FrLe.nil) (by exact HpLe.cons (OwLe.obj rfl)<|HpLe.cons (Bc rfl)<|HpLe.nil)
 case round =>
  rintro m _ ⟨_,hm,htr,rfl,rfl⟩
  by_cases h0:m = 0
  ·subst h0
   have hk0:(0:Nat)≤n:=Nat.zero_le n
   refine Aa<|Y1<|Wm ?_;refine Wq Aq ?_;refine Wm ?_;refine Ws ?_;refine Ws ?_;refine Ws ?_;refine Ws ?_;refine Ws ?_;refine Ws ?_;refine Ws ?_;refine Wq By ?_;apply Y0;refine Cf ?_;apply AG;apply Az;apply AA;apply AB;refine Yn<|Y1<|Wm<|Wm ?_;refine Wq (KP (k:=0) (ao rfl) (ao rfl) (Ac rfl) (Ac rfl) hk0 hc) ?_;refine Wa<|Y0 ?_;apply Aw
   refine Bk (RetsA.one rfl) rfl ?_ rfl
   exact ⟨by rw [← htr];rfl,rfl⟩
  ·have hm1 : m - 1 < N := by omega
   have hm2:m - 1<n:=by omega
   by_cases hz:F (m - 1) = 0
   ·have hs:(F (m - 1)).num.sign = 0:=DP.2 hz
    refine Aa<|Y1<|Wm ?_;refine Wq Am ?_;refine Wm ?_;refine Wg Af ?_;refine Wg Af ?_;refine Wg DM ?_;refine Wg (CB (k:=m - 1) (ao rfl) (ao rfl) (Ac rfl) (Ac rfl) hm2) ?_;refine Wg (KQ (e:=⟨g,71,flF (CJ F) N⟩) 0 0 (ao rfl) rfl rfl (Ac rfl) rfl (PartAt.flF (EL _) hm1)) ?_;refine Wg (Ao (Ex (F (m - 1)))) ?_;refine Wg Am ?_;refine Wq AT ?_;apply Y0;refine Ct ?_;refine Ys<|AWp.block<|AWp.region<|Wm ?_;refine Wq DM ?_;refine Wa ?_;apply AWl.nil;apply Ai
    have htr':La F (m - 1) = La F n:=by
     rw [← htr]
     obtain ⟨q,rfl⟩:∃ q,m = q+1:=⟨m - 1,by omega⟩
     have hz':F q = 0:=hz
     rw [show q+1 - 1 = q from rfl,La,if_pos hz']
    refine ALoop.next (m - 1) (by omega) ⟨m - 1,by omega,htr',rfl,rfl⟩ ?_
    exact Ag (by exact Yd<|Yd<|FrLe.nil) (by exact HpLe.cons (OwLe.obj rfl)<|HpLe.cons (Bc rfl)<|HpLe.nil)
   ·have hs:¬ (F (m - 1)).num.sign = 0:=fun h=>hz (DP.1 h)
    refine Aa<|Y1<|Wm ?_;refine Wq Am ?_;refine Wm ?_;refine Wg Af ?_;refine Wg Af ?_;refine Wg DM ?_;refine Wg (CB (k:=m - 1) (ao rfl) (ao rfl) (Ac rfl) (Ac rfl) hm2) ?_;refine Wg (KQ (e:=⟨g,71,flF (CJ F) N⟩) 0 0 (ao rfl) rfl rfl (Ac rfl) rfl (PartAt.flF (EL _) hm1)) ?_;refine Wg (Ao (Ex (F (m - 1)))) ?_;refine Wg Aq ?_;refine Wq AT ?_;apply Y0;refine Cf ?_;apply AG;apply Az;apply AA;apply AB;refine Yn<|Y1<|Wm<|Wm ?_;refine Wq (KP (k:=m) (ao rfl) (ao rfl) (Ac rfl) (Ac rfl) hm hc) ?_;refine Wa<|Y0 ?_;apply Aw
    have htr':La F m = m:=by
     obtain ⟨q,rfl⟩:∃ q,m = q+1:=⟨m - 1,by omega⟩
     have hz':¬ F q = 0:=hz
     rw [La,if_neg hz']
    refine Bk (RetsA.one rfl) rfl ?_ rfl
    exact ⟨by rw [← htr,htr'],rfl⟩
def Hs (F G:Nat→Rat) (k:Nat):Nat→Nat→Rat
 | 0=>fun _=>q0
 | i+1=>Ew (Hs F G k i) (F i) G i k
theorem RZ {H G:Nat→Rat} {c:Rat} {S1 S2 S3 k i:Nat} (hH:∀ j,RSz (H j) S1) (hc:RSz c S2) (hG:∀ j,RSz (G j) S3) (j:Nat):RSz (Ew H c G k i j) (S1+(S2+S3)+1):=by
 unfold Ew
 split
 ·exact (hH j).add (hc.mul (hG _))
 ·exact (hH j).mono (by omega)
theorem MI {F G:Nat→Rat} {k S2 S3:Nat} (hF:∀ j,RSz (F j) S2) (hG:∀ j,RSz (G j) S3):∀ i j,RSz (Hs F G k i j) (1+i*(S2+S3+1))
 | 0,j=>by
  rw [Nat.zero_mul]
  exact Uk (x:=0) (by omega) (by omega)
 | i+1,j=>by
  have:=RZ (k:=i) (i:=k) (MI (k:=k) hF hG i) (hF i) hG j
  refine RSz.mono this ?_
  rw [Nat.succ_mul]
  omega
theorem TW {s : GS} {g c n N:Nat} {F:Nat→Rat} (h:Hset s ⟨g,71,flF (CJ F) N⟩) (hn:n≤N) (hc:n≤c) (hc':c≤9223372036854775807) {v:Value} (hv:(sX g n c).rel s v):(DD n F).rel s v:=by
 obtain rfl:v = .slice (some ⟨g,0,none⟩) n c:=hv
 exact XW h (EL F) hn hc hc'
theorem UF (m k:Nat) (F G:Nat→Rat) (h:m = 0∨k = 0) (hm:m≤1000) (hk:k≤1000):Abs Tryz.prog 63 [DD m F,DD k G] (DD 0 F):=by
 by_cases h0:m = 0
 ·subst h0
  refine Ab Tryz.func63 fun s0=>?_
  rw [Tryz.ntmps63]
  refine Y1<|Wa<|Y0<|Aa<|Y1<|Wm ?_;refine Wq (Dt (F:=CJ F) rfl (Ac rfl)) ?_;refine Wq Am ?_;refine Wm ?_;refine Ws ?_;refine Ws ?_;refine Ws ?_;refine Wq AT ?_;apply Y0;refine Ct ?_;refine Y1<|Wa<|Y0 ?_;apply Aw;apply AW
  exact BP (Rets.of1 (ResV.tmp rfl rfl) (Ef))
 ·obtain rfl : k = 0 := by omega
  have h1:¬ ((m:Nat):Int) = 0:=by omega
  refine Ab Tryz.func63 fun s0=>?_
  rw [Tryz.ntmps63]
  refine Y1<|Wa<|Y0<|Aa<|Y1<|Wm ?_;refine Wq (Dt (F:=CJ F) rfl (Ac rfl)) ?_;refine Wq Aq ?_;refine Wm ?_;refine Wg Af ?_;refine Wg (Dt (F:=CJ G) rfl (Ac rfl)) ?_;refine Wg Am ?_;refine Wq By ?_;apply Y0;refine Ct ?_;refine Y1<|Wa<|Y0 ?_;apply Aw;apply AW
  exact BP (Rets.of1 (ResV.tmp rfl rfl) (Ef))
theorem UG (m k S2 S3:Nat) (F G:Nat→Rat) (hm0:0<m) (hk0:0<k) (hm:m≤1000) (hk:k≤1000) (hF:∀ j,RSz (F j) S2) (hG:∀ j,RSz (G j) S3) (hS:1+m*(S2+S3+1)≤4398046511104):Abs Tryz.prog 63 [DD m F,DD k G] (DD (La (Hs F G k m) (m+k - 1)) (Hs F G k m)):=by
 have h1:¬ ((m:Nat):Int) = 0:=by omega
 have h2:¬ ((k:Nat):Int) = 0:=by omega
 have hN:m+k - 1≤100000:=by omega
 refine Ab Tryz.func63 fun s0=>?_
 rw [Tryz.ntmps63]
 refine Y1<|Wa<|Y0<|Aa<|Y1<|Wm ?_;refine Wq (Dt (F:=CJ F) rfl (Ac rfl)) ?_;refine Wq Aq ?_;refine Wm ?_;refine Wg Af ?_;refine Wg (Dt (F:=CJ G) rfl (Ac rfl)) ?_;refine Wg Aq ?_;refine Wq By ?_;apply Y0;refine Cf ?_;refine Ys<|Y1<|Wm ?_;refine Wq (Dt (F:=CJ F) rfl (Ac rfl)) ?_;refine Wm ?_;refine Wq (Dt (F:=CJ G) rfl (Ac rfl)) ?_;refine Wq EC ?_;refine Wq DM ?_
 refine Be [] [] (JC (m+k - 1) hN) (.inl rfl) rfl rfl (.inl ⟨rfl,rfl⟩) (by repeat (first | exact ArgsC.nil | refine ArgsC.d rfl (D.le.refl _) ?_ | refine AR rfl rfl ?_)) (by decide) SelR.nil trivial rfl ?_
 rintro _ _ ⟨g,rfl,rfl⟩
 refine ⟨_,_,_,(by first | exact AVRen.d | exact AVRen.own rfl | exact AVRen.ptr rfl | exact AVRen.fn rfl),(by repeat (first | exact SetR.nil | (apply SetR.cons;(first | exact OwRen.dead | exact Aj | exact OwRen.obj | exact Ar | exact Ak rfl);exact rfl))),(by repeat (first | exact AppR.nil | (apply AppR.cons;(first | exact OwRen.dead | exact Aj | exact OwRen.obj | exact Ar | exact Ak rfl);exact rfl))),?_⟩
 try simp only [AZ,Bh]
 refine Wa<|Y0<|Aa<|Y1<|Wm ?_;refine Wq (Dt (F:=CJ F) rfl (Ac rfl)) ?_;refine Wm<|Y0<|AWp.block ?_
 refine AJ (fun mz σ=>∃ i,i≤m∧mz = m - i∧σ = ⟨[(1,.d (DD k G)),(5,.d (sX g (m+k - 1) (m+k - 1))),(23,.d (DD m F)),(24,.d (ex (.int .i64 (m:Nat)))),(25,.d (ex (.int .i64 (i:Nat))))],[.dead,upO g (Hs F G k i) (m+k - 1)]⟩) ?lei ⟨0,by omega,rfl,rfl⟩ ?roundi
 case lei=>exact Ag (by exact Yd<|Yd<|Yd<|Yd<|Yd<|FrLe.nil) (by exact HpLe.cons (OwLe.dead)<|HpLe.cons (OwLe.obj rfl)<|HpLe.nil)
 case roundi =>
  rintro mz _ ⟨i,hi,rfl,rfl⟩
  by_cases hlti:i<m
  ·have hi:(i+1)*(S2+S3+1)≤m*(S2+S3+1):=Nat.mul_le_mul_right _ hlti
   rw [Nat.succ_mul] at hi
   apply Y1;refine Wq Am ?_;refine Y0<|Aa ?_;refine Ct ?_;refine Ys<|Aa<|AWp.block<|Y1<|Wm ?_;refine Wq (Np (F:=CJ F) (k:=i) rfl (ao rfl) (Ac rfl) (Ac rfl) rfl hlti) ?_;refine Wq Br ?_;refine Al ?_;refine Wa ?_;refine Sf ?_;refine Y0<|AWp.region<|Wm ?_;refine Wq AU ?_;refine Wm<|Wm ?_
   refine Be [1] [] (Pa g (m+k - 1) (m+k - 1) k i (1+i*(S2+S3+1)) S2 S3 (Hs F G k i) G (F i) (MI hF hG i) (hF i) hG (by omega) (by omega) hN) (by first | exact Or.inl rfl | exact Or.inr ⟨by decide,rfl,by repeat (first | exact AvoidR.nil | refine AF rfl ?_ | refine AvoidR.dead ?_ | refine AM ?_ | refine AvoidR.obj ?_ | refine AD ?_ | refine AE rfl ?_ | refine AvoidR.pin rfl ?_)⟩) rfl rfl (by first | exact .inl ⟨rfl,rfl⟩ | exact .inr ⟨rfl,rfl⟩) (by repeat (first | exact ArgsC.nil | refine ArgsC.d rfl (D.le.refl _) ?_ | refine AR rfl rfl ?_)) (by decide) (by repeat (first | exact SelR.nil | refine SelR.var rfl ?_ | refine SelR.obj rfl ?_ | refine Bb rfl ?_ | refine AP rfl rfl rfl ?_)) (by repeat (first | exact trivial | refine ⟨⟨_,_,rfl⟩,?_⟩)) rfl ?_
   rintro _ _ ⟨rfl,rfl⟩
   refine ⟨_,_,_,(by first | exact AVRen.d | exact AVRen.own rfl | exact AVRen.ptr rfl | exact AVRen.fn rfl),(by repeat (first | exact SetR.nil | (apply SetR.cons;(first | exact OwRen.dead | exact Aj | exact OwRen.obj | exact Ar | exact Ak rfl);exact rfl))),(by repeat (first | exact AppR.nil | (apply AppR.cons;(first | exact OwRen.dead | exact Aj | exact OwRen.obj | exact Ar | exact Ak rfl);exact rfl))),?_⟩
   try simp only [AZ,Bh]
   apply AWl.nil;apply Ai;refine Yn<|AWp.region ?_;refine Wq AH ?_;refine Wm ?_;apply AWl.nil
   refine ALoop.next (m - (i+1)) (by omega) ⟨i+1,by omega,rfl,rfl⟩ ?_
   exact Ag (by exact Yd<|Yd<|Yd<|Yd<|Yd<|FrLe.nil) (by exact HpLe.cons (OwLe.dead)<|HpLe.cons (OwLe.obj rfl)<|HpLe.nil)
  ·obtain rfl : i = m := by omega
   apply Y1;refine Wq Aq ?_;refine Y0<|Aa ?_;refine Cf ?_;apply AG;apply Az;apply AA;apply AB;refine Yn<|Y1<|Wm ?_
   refine Be [1] [] (Ls (Hs F G k i) (i+k - 1) (i+k - 1) g (i+k - 1) (Nat.le_refl _) (Nat.le_refl _) hN) (by first | exact Or.inl rfl | exact Or.inr ⟨by decide,rfl,by repeat (first | exact AvoidR.nil | refine AF rfl ?_ | refine AvoidR.dead ?_ | refine AM ?_ | refine AvoidR.obj ?_ | refine AD ?_ | refine AE rfl ?_ | refine AvoidR.pin rfl ?_)⟩) rfl rfl (by first | exact .inl ⟨rfl,rfl⟩ | exact .inr ⟨rfl,rfl⟩) (by repeat (first | exact ArgsC.nil | refine ArgsC.d rfl (D.le.refl _) ?_ | refine AR rfl rfl ?_)) (by decide) (by repeat (first | exact SelR.nil | refine SelR.var rfl ?_ | refine SelR.obj rfl ?_ | refine Bb rfl ?_ | refine AP rfl rfl rfl ?_)) (by repeat (first | exact trivial | refine ⟨⟨_,_,rfl⟩,?_⟩)) rfl ?_
   rintro _ _ ⟨rfl,rfl⟩
   refine ⟨_,_,_,(by first | exact AVRen.d | exact AVRen.own rfl | exact AVRen.ptr rfl | exact AVRen.fn rfl),(by repeat (first | exact SetR.nil | (apply SetR.cons;(first | exact OwRen.dead | exact Aj | exact OwRen.obj | exact Ar | exact Ak rfl);exact rfl))),(by repeat (first | exact AppR.nil | (apply AppR.cons;(first | exact OwRen.dead | exact Aj | exact OwRen.obj | exact Ar | exact Ak rfl);exact rfl))),?_⟩
   try simp only [AZ,Bh]
   have hle:=JH (Hs F G k i) (i+k - 1)
   refine Dk (EV (R:=DD (La (Hs F G k i) (i+k - 1)) (Hs F G k i)) 1 37 rfl rfl rfl rfl fun s' hs v hv=>?_) ?_
   ·exact TW (hs _ List.mem_cons_self) hle (by omega) (by omega) hv
   refine Wa<|Y0 ?_;apply Aw
   exact Yf
def EG (F : Nat→Rat) (n j:Nat):Rat:=if j<n then F j else q0
theorem Va {F : Nat→Rat} {n S:Nat} (h:∀ j,RSz (F j) S) (hS:1≤S) (j:Nat):RSz (EG F n j) S:=by
 unfold EG
 split
 ·exact h j
 ·exact RSz.mono (Uk (x:=0) (by omega) (by omega)) hS
theorem Zl (F : Nat→Rat) (n N:Nat):RV n (CJ F) (CJ fun _=>q0) = CJ (EG F n):=by
 funext j
 unfold RV CJ EG
 split <;> rfl
abbrev q1 : Rat:=((1:Int):Rat)
def IE (F G:Nat→Rat) (m k:Nat):Nat→Rat:=Ew (EG F m) q1 G 0 k
theorem Vy (m k S1 S3:Nat) (F G:Nat→Rat) (hm:m≤1000) (hk:k≤1000) (hF:∀ j,RSz (F j) S1) (hG:∀ j,RSz (G j) S3) (hS1:1≤S1) (hS:S1+(1+S3)+1≤4398046511104):Abs Tryz.prog 64 [DD m F,DD k G] (DD (La (IE F G m k) (max m k)) (IE F G m k)):=by
 have hN:max m k≤100000:=by omega
 have hmx:((max m k:Nat):Int) = max ((m:Nat):Int) (((k:Nat):Int)+0):=by omega
 have cz:=JC (max m k) hN
 rw [hmx] at cz
 have csh:Abs Tryz.prog 116 [DD m F,Ca (CG q1),DD k G,ex (.int .i64 0)] (DD (La (IE F G m k) (max m k)) (IE F G m k)):=by
  refine Ab Tryz.func116 fun s0=>?_
  rw [Tryz.ntmps116]
  apply Y1;refine Bx ?_;refine Wa<|Y0<|Y1<|Wm ?_;refine Wq (Dt (F:=CJ F) rfl (Ac rfl)) ?_;refine Wm ?_;refine Wq (Dt (F:=CJ G) rfl (Ac rfl)) ?_;refine Wm ?_;refine Wq EC ?_;refine Wq KK ?_
  refine Be [] [] (cz) (.inl rfl) rfl rfl (.inl ⟨rfl,rfl⟩) (by repeat (first | exact ArgsC.nil | refine ArgsC.d rfl (D.le.refl _) ?_ | refine AR rfl rfl ?_)) (by decide) SelR.nil trivial rfl ?_
  rintro _ _ ⟨g,rfl,rfl⟩
  refine ⟨_,_,_,(by first | exact AVRen.d | exact AVRen.own rfl | exact AVRen.ptr rfl | exact AVRen.fn rfl),(by repeat (first | exact SetR.nil | (apply SetR.cons;(first | exact OwRen.dead | exact Aj | exact OwRen.obj | exact Ar | exact Ak rfl);exact rfl))),(by repeat (first | exact AppR.nil | (apply AppR.cons;(first | exact OwRen.dead | exact Aj | exact OwRen.obj | exact Ar | exact Ak rfl);exact rfl))),?_⟩
  try simp only [AZ,Bh]
  refine Wa<|Y0<|Y1<|Wm<|Wm ?_;refine Yh (F:=CJ F) (N:=m) (len:=max m k) (G:=CJ fun _=>q0) 2 0 (ao rfl) rfl rfl rfl (EL _) (EL _) (by decide) (Ac rfl) (Ac rfl) rfl rfl ?_;refine Y0<|Y1<|Wm ?_;refine Wq AU ?_;refine Wm<|Wm ?_
  rw [Zl F m (max m k)]
  skip
  refine Be [2] [] (Pa g (max m k) (max m k) k 0 S1 1 S3 (EG F m) G q1 (Va hF hS1) (Uk (x:=1) (by omega) (by omega)) hG hS (by omega) hN) (by first | exact Or.inl rfl | exact Or.inr ⟨by decide,rfl,by repeat (first | exact AvoidR.nil | refine AF rfl ?_ | refine AvoidR.dead ?_ | refine AM ?_ | refine AvoidR.obj ?_ | refine AD ?_ | refine AE rfl ?_ | refine AvoidR.pin rfl ?_)⟩) rfl rfl (by first | exact .inl ⟨rfl,rfl⟩ | exact .inr ⟨rfl,rfl⟩) (by repeat (first | exact ArgsC.nil | refine ArgsC.d rfl (D.le.refl _) ?_ | refine AR rfl rfl ?_)) (by decide) (by repeat (first | exact SelR.nil | refine SelR.var rfl ?_ | refine SelR.obj rfl ?_ | refine Bb rfl ?_ | refine AP rfl rfl rfl ?_)) (by repeat (first | exact trivial | refine ⟨⟨_,_,rfl⟩,?_⟩)) rfl ?_
  rintro _ _ ⟨rfl,rfl⟩
  refine ⟨_,_,_,(by first | exact AVRen.d | exact AVRen.own rfl | exact AVRen.ptr rfl | exact AVRen.fn rfl),(by repeat (first | exact SetR.nil | (apply SetR.cons;(first | exact OwRen.dead | exact Aj | exact OwRen.obj | exact Ar | exact Ak rfl);exact rfl))),(by repeat (first | exact AppR.nil | (apply AppR.cons;(first | exact OwRen.dead | exact Aj | exact OwRen.obj | exact Ar | exact Ak rfl);exact rfl))),?_⟩
  try simp only [AZ,Bh]
  refine Y0<|Y1<|Wm ?_
  refine Be [2] [] (Ls (IE F G m k) (max m k) (max m k) g (max m k) (Nat.le_refl _) (Nat.le_refl _) hN) (by first | exact Or.inl rfl | exact Or.inr ⟨by decide,rfl,by repeat (first | exact AvoidR.nil | refine AF rfl ?_ | refine AvoidR.dead ?_ | refine AM ?_ | refine AvoidR.obj ?_ | refine AD ?_ | refine AE rfl ?_ | refine AvoidR.pin rfl ?_)⟩) rfl rfl (by first | exact .inl ⟨rfl,rfl⟩ | exact .inr ⟨rfl,rfl⟩) (by repeat (first | exact ArgsC.nil | refine ArgsC.d rfl (D.le.refl _) ?_ | refine AR rfl rfl ?_)) (by decide) (by repeat (first | exact SelR.nil | refine SelR.var rfl ?_ | refine SelR.obj rfl ?_ | refine Bb rfl ?_ | refine AP rfl rfl rfl ?_)) (by repeat (first | exact trivial | refine ⟨⟨_,_,rfl⟩,?_⟩)) rfl ?_
  rintro _ _ ⟨rfl,rfl⟩
  refine ⟨_,_,_,(by first | exact AVRen.d | exact AVRen.own rfl | exact AVRen.ptr rfl | exact AVRen.fn rfl),(by repeat (first | exact SetR.nil | (apply SetR.cons;(first | exact OwRen.dead | exact Aj | exact OwRen.obj | exact Ar | exact Ak rfl);exact rfl))),(by repeat (first | exact AppR.nil | (apply AppR.cons;(first | exact OwRen.dead | exact Aj | exact OwRen.obj | exact Ar | exact Ak rfl);exact rfl))),?_⟩
  try simp only [AZ,Bh]
  have hle:=JH (IE F G m k) (max m k)
  refine Dk (EV (R:=DD (La (IE F G m k) (max m k)) (IE F G m k)) 2 27 rfl rfl rfl rfl fun s' hs v hv=>?_) ?_
  ·exact TW (hs _ List.mem_cons_self) hle (by omega) (by omega) hv
  refine Wa<|Y0 ?_;apply Aw
  exact Yf
 refine Ab Tryz.func64 fun s0=>?_
 rw [Tryz.ntmps64]
 refine Y1<|Wa<|Y0<|Y1<|Wm ?_;refine Wq (Ao (IG 1 (by omega) (by omega))) ?_;refine Wm ?_;refine Wq (Ao (csh)) ?_;refine Wa<|Y0 ?_;apply Aw
 exact Yf
theorem WY (x y:Int) (hn:(Av x.natAbs).length≤4398046511104) (hn':(Av y.natAbs).length≤4398046511104) (hy:0<y):Abs Tryz.prog 109 [Ca (Jh x),Ca (Jh y)] (Ca (CG (Rat.divInt x y))):=by
 refine Ci (As Tryz.func109 (by kernel_rfl) (by kernel_rfl)) fun s vs hok hl hv=>?_
 rw [vs2 hl]
 obtain ⟨x0,X0,n0,c0,e0,h0⟩:=IB (hv 0 (by simp))
 obtain ⟨x1,X1,n1,c1,e1,h1⟩:=IB (hv 1 (by simp))
 rw [e0,e1]
 exact (FQ x0 x1 X0 X1 n0 c0 n1 c1 x y _ h0 h1 hn hn' hy).mono fun e w' ⟨y,y',Y,Y',m,k,m',k',he,hI,hE⟩=>⟨_,he,hE,fun s' hw hok' _ _=>by subst hw;exact HW hok' hI⟩
theorem Sg (x y:Int) (hn:(Av x.natAbs).length≤4398046511104) (hn':(Av y.natAbs).length≤4398046511104) (hy:0<y):Abs Tryz.prog 61 [Ca (Jh x),Ca (Jh y)] (DE [Ca (CG (Rat.divInt x y)),ex (.int .i64 0)]):=by
 have hs:y.sign = 1:=Int.sign_eq_one_of_pos hy
 have cs:=WC y
 rw [hs] at cs
 refine Ab Tryz.func61 fun s0=>?_
 rw [Tryz.ntmps61]
 apply Y1;refine Bx ?_;refine Bx ?_;refine Al ?_;refine Wa<|Y0<|Aa<|Y1 ?_;refine Wq AU ?_;refine Wq (Ao (cs)) ?_;refine Wq Aq ?_;apply Y0;refine Cf ?_;refine Ys<|Aa<|Y1 ?_;refine Wq AU ?_;refine Wq (Ao (cs)) ?_;refine Wq Aq ?_;apply Y0;refine Cf ?_;refine Ys<|Y1 ?_;refine Wq AU ?_;refine Wq AU ?_;refine Wq (Ao (WY x y hn hn' hy)) ?_;refine Sf ?_;refine Wa<|Y0 ?_;apply Aw
 exact BP (CN (ResV.cell rfl rfl (Ac rfl) rfl rfl rfl) (ResV.tmp rfl rfl) (Cp (D.le.refl _) (D.le.refl _)))
theorem TG (c : Rat):Abs Tryz.prog 59 [Ca (CG c)] (DD (if c = 0 then 0 else 1) fun _=>c):=by
 by_cases h0:c = 0
 ·have hs:c.num.sign = 0:=DP.2 h0
  rw [if_pos h0]
  refine Ab Tryz.func59 fun s0=>?_
  rw [Tryz.ntmps59]
  apply Y1;refine Bx ?_;refine Wa<|Y0<|Aa<|Y1 ?_;refine Wq AU ?_;refine Wq (Ao (Ex c)) ?_;refine Wq Am ?_;apply Y0;refine Ct ?_;refine Y1<|Wa<|Y0 ?_;apply Aw;apply AW
  exact BP (Rets.of1 (ResV.tmp rfl rfl) (Ef))
 ·have hs:¬ c.num.sign = 0:=fun h=>h0 (DP.1 h)
  rw [if_neg h0]
  refine Ab Tryz.func59 fun s0=>?_
  rw [Tryz.ntmps59]
  apply Y1;refine Bx ?_;refine Wa<|Y0<|Aa<|Y1 ?_;refine Wq AU ?_;refine Wq (Ao (Ex c)) ?_;refine Wq Aq ?_;apply Y0;refine Cf ?_;refine Ys<|Y1 ?_;refine Wq AU ?_;refine Wq (EK (ao rfl) (Ac rfl) (Ac rfl) rfl rfl rfl rfl rfl) ?_;refine Wa<|Y0 ?_;apply Aw
  exact Yf
def pG (t j:Nat) (k:Nat):Rat:=if k = 0 then Rat.divInt ((t:Int) - (j:Int)) (t:Int) else Rat.divInt 1 (t:Int)
def pT (c : Rat) (j:Nat):Nat→Nat × (Nat→Rat)
 | 0=>(if c = 0 then 0 else 1,fun _=>c)
 | i+1=>if (pT c j i).1 = 0 then (0,(pT c j i).2) else (La (Hs (pT c j i).2 (pG (i+1) j) 2 (pT c j i).1) ((pT c j i).1+1),Hs (pT c j i).2 (pG (i+1) j) 2 (pT c j i).1)
theorem Ob (c : Rat) (j:Nat):∀ i,(pT c j i).1≤i+1
 | 0=>by
  show (if c = 0 then 0 else 1)≤1
  split <;> omega
 | i+1=>by
  rw [pT]
  have:=Ob c j i
  split
  ·exact Nat.zero_le _
  ·exact Nat.le_trans (JH _ _) (by omega)
def Px : Nat→Nat
 | 0=>2
 | i+1=>1+(i+1)*(Px i+2)
theorem TZ {i : Nat} (h:i≤7):Px i≤100000:=by
 have:i = 0∨i = 1∨i = 2∨i = 3∨i = 4∨i = 5∨i = 6∨i = 7:=by omega
 rcases this with rfl | rfl | rfl | rfl | rfl | rfl | rfl | rfl <;> decide
theorem YB (t j k:Nat) (ht:0<t) (ht2:t≤1000) (hj:j≤10000):RSz (pG t j k) 1:=by
 unfold pG
 split
 ·exact RSz.divInt (by omega) (Dh (by omega) (by omega)) (Dh (by omega) (by omega))
 ·exact RSz.divInt (by omega) (Dh (by omega) (by omega)) (Dh (by omega) (by omega))
theorem Rv {c : Rat} {j:Nat} (hc:RSz c 2) (hj:j≤10000):∀ i,i≤900→∀ k,RSz ((pT c j i).2 k) (Px i)
 | 0,_,k=>hc
 | i+1,hi,k=>by
  have ih:=Rv hc hj i (by omega)
  have hle:=Ob c j i
  rw [pT]
  split
  ·refine (ih k).mono ?_
   show Px i≤1+(i+1)*(Px i+2)
   have:1*(Px i+2)≤(i+1)*(Px i+2):=Nat.mul_le_mul_right _ (by omega)
   omega
  ·refine (MI ih (fun k => YB (i + 1) j k (by omega) (by omega) hj) _ k).mono ?_
   exact Nat.add_le_add_left (Nat.mul_le_mul_right (Px i+2) hle) 1
def pH (q : Nat→Int) (Dg:Nat):Nat→Nat × (Nat→Rat)
 | 0=>(0,fun _=>q0)
 | j+1=>(La (IE (pH q Dg j).2 (pT ((q j:Int):Rat) j (Dg - 1)).2 (pH q Dg j).1 (pT ((q j:Int):Rat) j (Dg - 1)).1) (max (pH q Dg j).1 (pT ((q j:Int):Rat) j (Dg - 1)).1),IE (pH q Dg j).2 (pT ((q j:Int):Rat) j (Dg - 1)).2 (pH q Dg j).1 (pT ((q j:Int):Rat) j (Dg - 1)).1)
theorem Uv (q : Nat→Int) {Dg:Nat} (hD:0<Dg):∀ j,(pH q Dg j).1≤Dg
 | 0=>Nat.zero_le Dg
 | j+1=>by
  have h1:=Uv q hD j
  have h2:=Ob ((q j:Int):Rat) j (Dg - 1)
  rw [pH]
  exact Nat.le_trans (JH _ _) (by omega)
theorem YA {q : Nat→Int} {Dg:Nat} (hD:Dg≤900) (hq:∀ j,RSz ((q j:Int):Rat) 2):∀ j,j≤10000→∀ k,RSz ((pH q Dg j).2 k) (1+j*(Px (Dg - 1)+2))
 | 0,_,k=>by
  rw [Nat.zero_mul]
  exact Uk (x:=0) (by omega) (by omega)
 | j+1,hj,k=>by
  have h1:=YA hD hq j (by omega)
  have h2:=Rv (hq j) (show j≤10000 by omega) (Dg - 1) (by omega)
  rw [pH]
  refine (RZ (fun t=>Va h1 (by omega) t) (Uk (x:=1) (by omega) (by omega)) h2 k).mono ?_
  rw [Nat.succ_mul]
  omega
theorem Mp (l : Ae) (n:Int) (Dg M:Nat) (q:Nat→Int) (hD:0<Dg) (hD2:Dg≤8) (hM:M≤9000) (hq:∀ j,-9223372036854775808≤q j∧q j≤9223372036854775807) (ck:Abs Tryz.prog 46 [BG l,ex (.int .i64 n)] (ex (.int .i64 0))) (cd:Abs Tryz.prog 55 [BG l,ex (.int .i64 n)] (ex (.int .i64 (Dg:Nat)))) (cc:Abs Tryz.prog 58 [BG l,ex (.int .i64 n),ex (.int .i64 (Dg:Nat))] (nD M q)):Abs Tryz.prog 26 [BG l,ex (.int .i64 n)] (DE [DD (pH q Dg M).1 (pH q Dg M).2,ex (.int .i64 0)]):=by
 have hDp:¬ ((Dg:Nat):Int)≤0:=by omega
 have hqs:∀ j,RSz ((q j:Int):Rat) 2:=fun j=>Uj (hq j).1 (hq j).2
 have hsz:Px (Dg - 1)≤100000:=TZ (by omega)
 refine Ab Tryz.func26 fun s0=>?_
 rw [Tryz.ntmps26]
 refine Y1<|Wa<|Wa<|Y0<|Aa<|Y1<|Wm<|Wm ?_;refine Wq (Ao (ck)) ?_;refine Wa<|Y0<|Y1<|Wm ?_;refine Wq Aq ?_;apply Y0;refine Cf ?_;refine Ys<|Y1<|Wm<|Wm ?_;refine Wq (Ao (cd)) ?_;refine Wa<|Y0<|Aa<|Y1<|Wm ?_;refine Wq Aq ?_;apply Y0;refine Cf ?_;refine Ys<|Y1<|Wa<|Y0<|Aa<|Y1<|Wm<|Wm<|Wm ?_;refine Wq (Ao (cc)) ?_;refine Wq (Fi rfl (Ac rfl)) ?_;refine Wm<|Y0<|AWp.block ?_
 refine AJ (fun mz σ=>∃ j,j≤M∧mz = M - j∧σ = ⟨[(7,.d (ex (.int .i64 (Dg:Nat)))),(8,.d (DD (pH q Dg j).1 (pH q Dg j).2)),(31,.d (nD M q)),(32,.d (ex (.int .i64 (M:Nat)))),(33,.d (ex (.int .i64 (j:Nat))))],[]⟩) ?lej ⟨0,by omega,rfl,rfl⟩ ?roundj
 case lej=>exact Ag (by exact Yd<|FrLe.cons rfl (AVle.le Ef)<|Yd<|Yd<|Yd<|FrLe.nil) (by exact HpLe.nil)
 case roundj =>
  rintro mz _ ⟨j,hj,rfl,rfl⟩
  by_cases hltj:j<M
  ·have hj:=hq j
   apply Y1;refine Wq Am ?_;refine Y0<|Aa ?_;refine Ct ?_;refine Ys<|Aa<|AWp.block<|Y1<|Wm ?_;refine Wq (KR (k:=j) rfl (ao rfl) (Ac rfl) (Ac rfl) rfl hltj) ?_;refine Wq BE ?_;refine Wa<|Wa<|Y0<|Y1<|Wm ?_;refine Wq (Ao (IG (q j) hj.1 hj.2)) ?_;refine Wq (Ao (TG ((q j:Int):Rat))) ?_;refine Wa<|Y0<|Aa<|Y1<|Wa<|Y0<|AWp.block ?_
   refine AJ (fun mz σ=>∃ i,i≤Dg - 1∧mz = Dg - 1 - i∧σ = ⟨[(7,.d (ex (.int .i64 (Dg:Nat)))),(8,.d (DD (pH q Dg j).1 (pH q Dg j).2)),(9,.d (ex (.int .i64 (j:Nat)))),(11,.d (DD (pT ((q j:Int):Rat) j i).1 (pT ((q j:Int):Rat) j i).2)),(12,.d (ex (.int .i64 ((i+1:Nat):Int)))),(31,.d (nD M q)),(32,.d (ex (.int .i64 (M:Nat)))),(33,.d (ex (.int .i64 (j:Nat))))],[]⟩) ?lei ⟨0,by omega,rfl,rfl⟩ ?roundi
   case lei=>exact Ag (by exact Yd<|Yd<|Yd<|Yd<|Yd<|Yd<|Yd<|Yd<|FrLe.nil) (by exact HpLe.nil)
   case roundi =>
    rintro mz _ ⟨i,hi,rfl,rfl⟩
    by_cases hlti:i<Dg - 1
    ·have c1 : Abs Tryz.prog 61 [Ca (Jh (((i + 1 : Nat) : Int) - (j : Int))), Ca (Jh ((i + 1 : Nat) : Int))] (DE [Ca (CG (pG (i + 1) j 0)), ex (.int .i64 0)]) := Sg _ _ (Nat.le_trans (Dh (by omega) (by omega)) (by decide)) (Nat.le_trans (Dh (by omega) (by omega)) (by decide)) (by omega)
     have c2:Abs Tryz.prog 61 [Ca (Jh 1),Ca (Jh ((i+1:Nat):Int))] (DE [Ca (CG (pG (i+1) j 1)),ex (.int .i64 0)]):=Sg _ _ (Nat.le_trans (Dh (by omega) (by omega)) (by decide)) (Nat.le_trans (Dh (by omega) (by omega)) (by decide)) (by omega)
     have c3:Abs Tryz.prog 63 [DD (pT ((q j:Int):Rat) j i).1 (pT ((q j:Int):Rat) j i).2,slD 71 4 [CG (pG (i+1) j 0),CG (pG (i+1) j 1)]] (DD (pT ((q j:Int):Rat) j (i+1)).1 (pT ((q j:Int):Rat) j (i+1)).2):=by
      have hle:=Ob ((q j:Int):Rat) j i
      by_cases hz:(pT ((q j:Int):Rat) j i).1 = 0
      ·rw [pT,if_pos hz]
       exact UF _ 2 _ (pG (i+1) j) (.inl hz) (by omega) (by omega)
      ·rw [pT,if_neg hz]
       refine UG _ 2 (Px i) 1 _ (pG (i+1) j) (by omega) (by omega) (by omega) (by omega) (Rv (hqs j) (by omega) i (by omega)) (fun k=>YB (i+1) j k (by omega) (by omega) (by omega)) ?_
       have h1:Px i≤100000:=TZ (by omega)
       have h2:(pT ((q j:Int):Rat) j i).1*(Px i+1+1)≤8*100002:=Nat.mul_le_mul (by omega) (by omega)
       omega
     refine Aa<|Y1<|Wm<|Wm ?_;refine Wq Am ?_;apply Y0;refine Ct ?_;refine Ys<|Aa<|AWp.block<|Y1<|Wm<|Wm ?_;refine Wq HA ?_;refine Wq (Ao (MG (((i+1:Nat):Int) - (j:Int)) (by omega) (by omega))) ?_;refine Wm ?_;refine Wq (Ao (MG ((i+1:Nat):Int) (by omega) (by omega))) ?_;refine Wq (Ao (c1)) ?_;refine Wm ?_;refine Wq Cc ?_;refine Wq Cc ?_;refine Al ?_;refine Sf ?_;refine Wa<|Y0<|Y1 ?_;refine Wq (Ao (MG 1 (by omega) (by omega))) ?_;refine Wm ?_;refine Wq (Ao (MG ((i+1:Nat):Int) (by omega) (by omega))) ?_;refine Wq (Ao (c2)) ?_;refine Wm ?_;refine Wq Cc ?_;refine Wq Cc ?_;refine Al ?_;refine Sf ?_;refine Wa<|Y0<|AWp.region<|Wm ?_;refine Wq AU ?_;refine Wq AU ?_;(refine Dj rfl rfl ?_;(refine DK (Ac rfl) (Ac rfl) rfl rfl rfl rfl rfl ?_;(repeat ((first | refine ⟨_,Bz (ao rfl),?_⟩ | refine ⟨_,Po rfl,?_⟩);refine ⟨_,rfl,?_⟩));refine ⟨_,rfl,?_⟩));refine Wq (Ao (c3)) ?_;refine Wa ?_;apply AWl.nil;apply Ai;refine Yn<|AWp.region<|Wm ?_;refine Wq AH ?_;refine Wa ?_;apply AWl.nil
     refine ALoop.next (Dg - 1 - (i+1)) (by omega) ⟨i+1,by omega,rfl,rfl⟩ ?_
     exact Ag (by exact Yd<|Yd<|Yd<|Yd<|Yd<|Yd<|Yd<|Yd<|FrLe.nil) (by exact HpLe.nil)
    ·obtain rfl : i = Dg - 1 := by omega
     have c4:Abs Tryz.prog 64 [DD (pH q Dg j).1 (pH q Dg j).2,DD (pT ((q j:Int):Rat) j (Dg - 1)).1 (pT ((q j:Int):Rat) j (Dg - 1)).2] (DD (pH q Dg (j+1)).1 (pH q Dg (j+1)).2):=by
      have h1:=Uv q hD j
      have h2:=Ob ((q j:Int):Rat) j (Dg - 1)
      have h3:j*(Px (Dg - 1)+2)≤9000*100002:=Nat.mul_le_mul (by omega) (by omega)
      exact Vy _ _ (1+j*(Px (Dg - 1)+2)) (Px (Dg - 1)) _ _ (by omega) (by omega) (YA (by omega) hqs j (by omega)) (Rv (hqs j) (by omega) _ (by omega)) (by omega) (by omega)
     refine Aa<|Y1<|Wm<|Wm ?_;refine Wq Aq ?_;apply Y0;refine Cf ?_;apply AG;apply Az;apply AA;apply AB;refine Yn<|AWp.region<|Wm<|Wm ?_;refine Wq (Ao (c4)) ?_;refine Wa ?_;apply AWl.nil;apply Ai;refine Yn<|AWp.region ?_;refine Wq AH ?_;refine Wm ?_;apply AWl.nil
     refine ALoop.next (M - (j+1)) (by omega) ⟨j+1,by omega,rfl,rfl⟩ ?_
     exact Ag (by exact Yd<|Yd<|Yd<|Yd<|Yd<|FrLe.nil) (by exact HpLe.nil)
  ·obtain rfl : j = M := by omega
   apply Y1;refine Wq Aq ?_;refine Y0<|Aa ?_;refine Cf ?_;apply AG;apply Az;apply AA;apply AB;refine Yn<|Y1<|Wm<|Wa<|Wa<|Y0 ?_;apply Aw
   exact BP (CN (ResV.tmp rfl rfl) (ResV.tmp rfl rfl) (Cp (D.le.refl _) (D.le.refl _)))
end Go.Proofs.YtialdhnijjnpaaaGreat
