/- Part 21 of the proof of hilbertPolynomials_holds. No condition. -/
import Derived.Laws.CopyOwn
import Derived.Test.YtialdhnijjnpaaaGreatQd2
import Derived.Test.YtialdhnijjnpaaaGreatQd20
set_option linter.unusedSimpArgs false
set_option linter.unusedVariables false
set_option maxRecDepth 100000
namespace Go.Proofs.YtialdhnijjnpaaaGreat
open Go.RowKit
def cpF (n : Nat) (f f0:Nat→Int) (j:Nat):Int:=if j<n then f j else f0 j
section
variable {P : Program} {s0:An} {n:Nat} {ops:Array Oper} {Q:Exit→AS→Prop} {rest:List Oper} {fr:List (Nat × AV)} {hp hp':List Ow} {ty:TypeId} {ps:String} {af:Array Edge}
theorem ZC {t t2 T m b bytes len cap N g e0:Nat} {z z':Value} {d:TypeDesc} {x y:Operand} {L:List HE} {T0:TypeId} {f f0:Nat→Int} (id i:Nat) (hx:AS.arg ⟨fr,hp⟩ x = .d (sX g len cap)) (hy:Em hp (AS.arg ⟨fr,hp⟩ y) = some (nD N f)) (hh:hp[id]? = some (.obj (BD L))) (hi:L[i]? = some ⟨g,T0,nC f0 len⟩) (ht:Tab P t (.slice T) m b z') (hT:Tab P T d 1 bytes z) (hs:Dh hp id (.obj (BD (L.set i ⟨g,T0,nC (cpF N f f0) len⟩))) = some hp')
  (hd:Nat.blt e0 n = true) (h:AWl P s0 n ops Q rest ⟨(e0,.d Cu) :: fr,hp'⟩):AWl P s0 n ops Q (⟨some e0,.call { callee:=.builtin .copy,args:=#[x,y],argTypes:=#[t,t2] },ty,ps,af,none⟩ :: rest) ⟨fr,hp⟩:=by
 refine AWl.step rfl fun s ρ a hst K hK=>?_
 have hx':=hst.arg x
 rw [hx] at hx'
 have e1:a.eval x = .slice (some ⟨g,0,none⟩) len cap:=hx'
 obtain ⟨A,c,e2,h3,h4,h5⟩:=BX hst.hp (hst.arg y) hy
 rw [List.length_map,List.length_range] at e2 h3 h5
 obtain ⟨g1,-⟩:=DG (hst.hp id _ hh)
 obtain ⟨hT1,hS,cs,h6,h7,h8⟩:=g1 _ (List.mem_of_getElem? hi)
 simp only [HI] at h7 h8
 obtain ⟨ii,hii,hz0,hsize,hby⟩:=hT.info
 have hinf:(P.info? T).map (·.size) = some 1:=by rw [hii,Option.map_some,hsize]
 obtain ⟨q,hq⟩:∃ q,q = Nat.min N len:=⟨_,rfl⟩
 have hqN:q≤N:=by rw [hq];exact Nat.min_le_left _ _
 have hql:q≤len:=by rw [hq];exact Nat.min_le_right _ _
 have hql':∀ j,j<len→j<N→j<q:=fun j h1 h2=>by rw [hq];exact Nat.lt_min.2 ⟨h2,h1⟩
 obtain ⟨vs,hvl,hrun,hvs⟩:∃ vs:List Value,vs.length = q∧(execOp a.eval ⟨some e0,.call { callee:=.builtin .copy,args:=#[x,y],argTypes:=#[t,t2] },ty,ps,af,none⟩).run P s.w = .ok (.value (goInt q)) (s.w.setRow g (cs.toList.take 0 ++ vs ++ cs.toList.drop (0+vs.length)).toArray)∧∀ j,j<q→∃ u,vs[j]? = some u∧u.oneCell' = true∧u = .int .i64 (f j):=by
  by_cases h0:q = 0
  ·refine ⟨[], h0.symm, ?_, fun j hj => absurd hj (by omega)⟩
   have hrun:=run_copy_none (P:=P) s.w t t2 ty T (some ⟨g,0,none⟩) A len cap N c ht.und hinf (hq ▸ h0)
   have he:s.w.setRow g (cs.toList.take 0 ++ [] ++ cs.toList.drop (0+([]:List Value).length)).toArray = s.w:=by
    simp only [List.take_zero,List.nil_append,List.length_nil,List.drop_zero,Array.toArray_toList]
    exact setRow_self s.w g cs T0 (0,0) h6
   rw [he,h0]
   simp [execOp,resolve,invoke,builtin,e1,e2,hrun]
  ·obtain ⟨g2, p, rfl, h9⟩ := h5 (by omega)
   have hcell:∀ j,j<q→∃ u,s.w.cell? ⟨g2,p+j,none⟩ = some u∧u.oneCell' = true∧u = .int .i64 (f j):=fun j hj=>by
    obtain ⟨h10,h11⟩:=h9 j (by omega)
    have er:((List.range N).map fun i=>[ex (.int .i64 (f i))]).getD j [] = [ex (.int .i64 (f j))]:=by
     have:j<N:=by omega
     simp [this]
    rw [er] at h11
    obtain ⟨u,h12,h13,h14⟩:=h11.cell (k:=0) (by simp)
    rw [Nat.mul_one,Nat.add_zero] at h12
    exact ⟨u,h12,h13,h14⟩
   have hvl:((List.range q).map fun j=>Value.int .i64 (f j)).length = q:=by simp
   have hva:∀ j u,((List.range q).map fun j=>Value.int .i64 (f j))[j]? = some u→j<q∧u = .int .i64 (f j):=fun j u hu=>by
    rw [List.getElem?_map] at hu
    by_cases hj:j<q
    ·rw [List.getElem?_range hj] at hu
     cases hu
     exact ⟨hj,rfl⟩
    ·rw [List.getElem?_eq_none (by simpa using hj)] at hu
     cases hu
   refine ⟨(List.range q).map fun j=>.int .i64 (f j),hvl,?_,fun j hj=>⟨.int .i64 (f j),by simp [hj],rfl,rfl⟩⟩
   have hrun := run_copy_row (P := P) s.w t t2 ty T g 0 len cap ⟨g2, p, none⟩ N c cs T0 ((List.range q).map fun j => .int .i64 (f j)) ht.und hinf h6 (by rw [hvl, hq]) (fun j v hv => by
    obtain ⟨hj,rfl⟩:=hva j v hv
    obtain ⟨u,h12,_,rfl⟩:=hcell j hj
    rw [Addr.add_lit]
    exact h12) (by rw [hvl];omega) (fun v hv=>by
    obtain ⟨j,hj⟩:=List.mem_iff_getElem?.1 hv
    obtain ⟨_,rfl⟩:=hva j v hj
    rfl)
   rw [hvl] at hrun
   rw [hvl]
   simp [execOp,resolve,invoke,builtin,e1,e2,hrun]
 unfold Oper.wp
 rw [hrun]
 have hfin := Fe hst hh hi (W := s.w.setRow g (cs.toList.take 0 ++ vs ++ cs.toList.drop (0 + vs.length)).toArray) (cs' := (cs.toList.take 0 ++ vs ++ cs.toList.drop (0 + vs.length)).toArray) (ds' := nC (cpF N f f0) len) rfl rfl rfl (by simp [World.setRow]) (fun b hb => setRow_other s.w g b _ hb) (setRow_heap s.w g cs _ T0 _ h6)
  (by rw [HI]; simp; omega) (fun k hk => by
   rw [HI] at hk
   rw [Hi (by rw [hvl];omega),SJ hk]
   simp only [Nat.zero_le,true_and,Nat.zero_add,Nat.sub_zero,hvl]
   by_cases hr:k<q
   ·rw [if_pos hr]
    obtain ⟨u,y1,y2,y3⟩:=hvs k hr
    refine ⟨u,y1,y2,?_⟩
    rw [cpF,if_pos (by omega)]
    exact y3
   ·rw [if_neg hr]
    obtain ⟨u,y1,y2,y3⟩:=h8 k hk
    refine ⟨u,y1,y2,?_⟩
    rw [SJ hk] at y3
    rw [cpF,if_neg (fun h=>hr (hql' k hk h))]
    exact y3) hs
 exact hK _ _ _ h ⟨_,ρ,rfl,hfin.put (GS.Le.refl _) (dst:=some e0) (fun d hd'=>by cases hd';simpa [Nat.blt_eq] using hd) (r:=.d Cu) trivial⟩
end
def flF (F : Nat→List D) (n:Nat):List D:=((List.range n).map F).flatten
def Vi {α : Type} (F:Nat→α) (k:Nat) (r:α):Nat→α:=fun j=>if j = k then r else F j
theorem Pw (F : Nat→List D) (n:Nat):flF F (n+1) = flF F n ++ F n:=by
 simp [flF,List.range_succ]
theorem Ca {F : Nat→List D} {sz:Nat} (h:∀ j,(F j).length = sz):∀ n,(flF F n).length = n*sz
 | 0=>by rw [Nat.zero_mul];rfl
 | n+1=>by rw [Pw,List.length_append,Ca h n,h n,Nat.succ_mul]
theorem Gl {F : Nat→List D} {sz:Nat} (h:∀ j,(F j).length = sz):∀ {n j q:Nat},j<n→q<sz→(flF F n)[j*sz+q]? = (F j)[q]?
 | n+1,j,q,hj,hq=>by
  rw [Pw]
  by_cases h1:j<n
  ·have h2:(j+1)*sz≤n*sz:=Nat.mul_le_mul_right sz h1
   rw [Nat.succ_mul] at h2
   rw [List.getElem?_append_left (by rw [Ca h];omega)]
   exact Gl h h1 hq
  ·obtain rfl : j = n := by omega
   rw [List.getElem?_append_right (by rw [Ca h];omega),Ca h]
   congr 1
   omega
theorem ND {n sz i:Nat} (hi:i<n*sz):i / sz<n∧i % sz<sz∧i = i / sz*sz+i % sz:=by
 have h0:0<sz:=by
  rcases Nat.eq_zero_or_pos sz with h | h
  ·subst h;rw [Nat.mul_zero] at hi;omega
  ·exact h
 exact ⟨(Nat.div_lt_iff_lt_mul h0).2 hi,Nat.mod_lt _ h0,by rw [Nat.mul_comm];exact (Nat.div_add_mod i sz).symm⟩
theorem Ue {F G:Nat→List D} {n:Nat} (h:∀ j,j<n→F j = G j):flF F n = flF G n:=by
 unfold flF
 rw [List.map_congr_left fun j hj=>h j (List.mem_range.1 hj)]
theorem PartAt.flF {F : Nat→List D} {sz n j:Nat} (h:∀ j,(F j).length = sz) (hj:j<n):PartAt (flF F n) (j*sz) sz (F j):=by
 have h2:(j+1)*sz≤n*sz:=Nat.mul_le_mul_right sz hj
 rw [Nat.succ_mul] at h2
 refine ⟨by rw [Ca h];exact h2,?_⟩
 apply List.ext_getElem?
 intro q
 rw [List.getElem?_take]
 split
 ·rename_i hq
  rw [List.getElem?_drop]
  exact Gl h hj hq
 ·rename_i hq
  rw [List.getElem?_eq_none (by rw [h];omega)]
theorem RY {F : Nat→List D} {sz k:Nat} {r:List D} (h:∀ j,(F j).length = sz) (hr:r.length = sz) (j:Nat):(Vi F k r j).length = sz:=by
 unfold Vi
 split
 ·exact hr
 ·exact h j
theorem SetAt.flF {F : Nat→List D} {sz n j:Nat} {r:List D} (h:∀ j,(F j).length = sz) (hr:r.length = sz) (hj:j<n):SetAt (flF F n) (j*sz) r (flF (Vi F j r) n):=by
 have h2:(j+1)*sz≤n*sz:=Nat.mul_le_mul_right sz hj
 rw [Nat.succ_mul] at h2
 have hle:j*sz+r.length≤(Go.Proofs.YtialdhnijjnpaaaGreat.flF F n).length:=by rw [Ca h,hr];exact h2
 refine ⟨hle,?_⟩
 apply List.ext_getElem?
 intro i
 by_cases hi:i<n*sz
 ·obtain ⟨h3,h4,h5⟩:=ND hi
  have e2:(Go.Proofs.YtialdhnijjnpaaaGreat.flF (Vi F j r) n)[i]? = (Vi F j r (i / sz))[i % sz]? := by
   conv=>lhs;rw [h5]
   exact Gl (RY h hr) h3 h4
  have e3:(Go.Proofs.YtialdhnijjnpaaaGreat.flF F n)[i]? = (F (i / sz))[i % sz]? := by
   conv=>lhs;rw [h5]
   exact Gl h h3 h4
  rw [e2]
  unfold Ma
  have hlt:((Go.Proofs.YtialdhnijjnpaaaGreat.flF F n).take (j*sz)).length = j*sz:=by rw [List.length_take,Ca h];omega
  by_cases h6:i<j*sz
  ·rw [List.getElem?_append_left (by rw [hlt]; exact h6), List.getElem?_take, if_pos h6, e3]
   have:i / sz ≠ j:=fun e=>by rw [e] at h5;omega
   rw [Vi,if_neg this]
  ·rw [List.getElem?_append_right (by rw [hlt]; omega), hlt]
   by_cases h7:i<j*sz+sz
   ·have e4 : i / sz = j := Nat.div_eq_of_lt_le (by omega) (by rw [Nat.succ_mul]; exact h7)
    rw [List.getElem?_append_left (by rw [hr];omega),Vi,if_pos e4]
    congr 1
    rw [e4] at h5
    omega
   ·rw [List.getElem?_append_right (by rw [hr]; omega), List.getElem?_drop, hr, Vi, if_neg (fun e => by rw [e] at h5; omega), ← e3]
    congr 1
    omega
 ·rw [List.getElem?_eq_none (by rw [Cl hle,Ca h];omega),List.getElem?_eq_none (by rw [Ca (RY h hr)];omega)]
def rD (T sz:Nat) (F:Nat→List D) (n:Nat):D:=slD T sz ((List.range n).map F)
theorem Zs {s : GS} {b T sz n N cap:Nat} {F:Nat→List D} (h:Hset s ⟨b,T,flF F N⟩) (hF:∀ j,(F j).length = sz) (hn:n≤N) (h1:n≤cap) (h2:cap≤9223372036854775807):(rD T sz F n).rel s (.slice (some ⟨b,0,none⟩) n cap):=by
 have hr:∀ k,k<n→((List.range n).map F).getD k [] = F k:=fun k hk=>by simp [hk]
 refine h.sl rfl (by simp) h1 h2 (fun k hk=>?_) fun k j hk hj=>?_
 ·rw [hr k (by simpa using hk)]
  exact hF k
 ·have hk : k < n := by simpa using hk
  have h3:(k+1)*sz≤N*sz:=Nat.mul_le_mul_right sz (by omega)
  rw [Nat.succ_mul] at h3
  rw [hr k hk]
  refine ⟨by show k*sz+j<(flF F N).length;rw [Ca hF];omega,?_⟩
  show BI (flF F N) (k*sz+j) = _
  unfold BI
  rw [List.getD_eq_getElem?_getD,List.getD_eq_getElem?_getD,Gl hF (by omega) hj]
theorem YH {r : List D} {n i:Nat} (hi:i<n*r.length):BI (flF (fun _=>r) n) i = BI r (i % r.length):=by
 obtain ⟨h3,h4,h5⟩:=ND hi
 unfold BI
 rw [List.getD_eq_getElem?_getD,List.getD_eq_getElem?_getD]
 congr 1
 conv=>lhs;rw [h5]
 exact Gl (F:=fun _=>r) (fun _=>rfl) h3 h4
section
variable {P : Program} {s0:An} {n:Nat} {ops:Array Oper} {Q:Exit→AS→Prop} {rest:List Oper} {fr:List (Nat × AV)} {hp hp':List Ow} {ty:TypeId} {ps:String} {af:Array Edge}
theorem Zz {t T m b bytes c k e sz:Nat} {z z':Value} {d:TypeDesc} {x y:Operand} {hpf:Nat→List Ow} (hx:AS.arg ⟨fr,hp⟩ x = .d (ex (.int .i64 (c:Nat)))) (hy:AS.arg ⟨fr,hp⟩ y = .d (ex (.int .i64 (c:Nat)))) (ht:Tab P t (.slice T) m b z') (hT:Tab P T d sz bytes z) (hz:z.cells.size = sz) (h0:0<sz) (hz1:FD z.cells.toList = true) (hc:c≤1000000) (hbytes:Nat.ble bytes 65536 = true) (hT32:Nat.beq T 136 = false) (hd:Nat.blt e n = true) (hk:Fd hp = some k) (hs:∀ g,Dc hp (.obj (BD [⟨g,T,flF (fun _=>z.cells.toList.map ex) c⟩])) = some (hpf g))
  (h:∀ g,AWl P s0 n ops Q rest ⟨(e,.d (sX g c c)) :: fr,hpf g⟩):AWl P s0 n ops Q (⟨some e,.makeSlice t x y,ty,ps,af,none⟩ :: rest) ⟨fr,hp⟩:=by
 refine AWl.step rfl fun s ρ a hst K hK=>?_
 have e1:a.eval x = .int .i64 (c:Nat):=St.exD hx ⟨s,ρ,rfl,hst⟩
 have e2:a.eval y = .int .i64 (c:Nat):=St.exD hy ⟨s,ρ,rfl,hst⟩
 obtain ⟨i,hi,hz0,hsize,hby⟩:=hT.info
 have hbytes:=Nat.le_of_ble_eq_true hbytes
 have hT32':=Nat.ne_of_beq_eq_false hT32
 obtain rfl:=DF hk
 have wc:IntKind.i64.wrap ((c:Nat):Int) = c:=IntWalk.i64_in _ (by omega)
 have hprod:bytes*c≤65536*1000000:=Nat.mul_le_mul hbytes hc
 have hprod':((bytes:Int)*(c:Int))≤281474976710656:=by
  have:((bytes*c:Nat):Int)≤((65536*1000000:Nat):Int):=Int.ofNat_le.2 hprod
  rw [Int.natCast_mul] at this
  omega
 have hroom:c*bytes≤roomBytes:=by
  rw [Nat.mul_comm]
  have:roomBytes = 140737488355328:=rfl
  omega
 obtain ⟨arr,harr,harr2,hrun⟩:∃ arr:Array Value,arr.size = c*sz∧(∀ k,k<c*sz→arr[k]? = z.cells[k % sz]?)∧(execOp a.eval ⟨some e,.makeSlice t x y,ty,ps,af,none⟩).run P s.w = .ok (.value (.slice (some ⟨s.w.heap.size,0,none⟩) c c)) (s.w.alloc (.cells arr T)):=by
  have hn:∀ arr,(newRow T arr).run P s.w = .ok ⟨s.w.heap.size,0,none⟩ (s.w.alloc (.cells arr T)):=fun _=>rfl
  have h281:¬ (281474976710656<(bytes:Int)*(c:Int)):=by omega
  have hroom':¬ (roomBytes<c*bytes):=by omega
  have hkn:¬ ((c:Int)<0):=by omega
  by_cases hk0:c = 0
  ·subst hk0
   refine ⟨(Array.range (0*sz)).map (fun j=>(#[]:Array Value)[j % 0]!),by simp,fun k hk=>by rw [Nat.zero_mul] at hk;omega,?_⟩
   simp [execOp,e1,e2,Instr.makeSlice,run_underlying ht.und,asInt,asIntOf,typeInfo,hi,hby,askRoom,hT.run_size,hn,sizeOf,hsize,show IntKind.i64.wrap 0 = 0 from rfl]
  ·have hnz:¬ (c*sz = 0):=fun h=>by
    rcases Nat.mul_eq_zero.1 h with h | h <;> omega
   have hsz0:¬ (sz = 0):=by omega
   refine ⟨(Array.range (c * sz)).map (fun j => z.cells[j % z.cells.size]!), by simp, fun k hk => by
    have:k % sz<z.cells.size:=by rw [hz];exact Nat.mod_lt _ h0
    simp [hk,hz,getElem!_def,Array.getElem?_eq_getElem this],?_⟩
   simp [execOp,e1,e2,Instr.makeSlice,run_underlying ht.und,asInt,asIntOf,typeInfo,hi,hby,wc,h281,askRoom,hroom',sizeOf,hsize,hnz,hk0,hsz0,zeroValue,hz0,hn,hkn]
 unfold Oper.wp
 rw [hrun]
 have hrl:(z.cells.toList.map ex).length = sz:=by rw [List.length_map,Array.length_toList,hz]
 have hfin := hst.new (s.le_mk' arr T 0 hT32') (dst := some e) (fun d hd' => by cases hd'; simpa [Nat.blt_eq] using hd) (v := .slice (some ⟨s.w.heap.size, 0, none⟩) c c) (u := undef) (r := .d (sX s.w.heap.size c c)) (ow := .obj (BD [⟨s.w.heap.size, T, flF (fun _ => z.cells.toList.map ex) c⟩])) rfl
  (by
   refine ⟨fun x hx=>?_,by simp⟩
   rw [List.mem_singleton.1 hx]
   refine ⟨hT32',fun k hk=>?_,arr,heap_alloc_new s.w _,by rw [Ca (fun _=>hrl),harr];exact Nat.le_refl _,fun k hk=>?_⟩
   ·exact absurd (hst.ok.lt _ _ hk) (Nat.lt_irrefl _)
   ·have hk : k < c * sz := by rw [Ca (fun _ => hrl)] at hk; exact hk
    have hm:k % sz<z.cells.size:=by rw [hz];exact Nat.mod_lt _ h0
    refine ⟨z.cells[k % sz],(harr2 k hk).trans (Array.getElem?_eq_getElem hm),List.all_eq_true.1 hz1 z.cells[k % sz] (by simp),?_⟩
    rw [YH (by rw [hrl];exact hk),hrl]
    have:BI (z.cells.toList.map ex) (k % sz) = ex z.cells[k % sz]:=by
     unfold BI
     rw [List.getD_eq_getElem?_getD,List.getElem?_map,Array.getElem?_toList,Array.getElem?_eq_getElem hm]
     rfl
    rw [this]
    exact rfl)
  (fun b hb=>by
   obtain ⟨x,hx,rfl⟩:=hb
   rw [List.mem_singleton.1 hx]
   exact Nat.le_refl _)
 have hg:=h s.w.heap.size
 rw [Cz (hs s.w.heap.size)] at hg
 exact hK _ _ _ hg ⟨_,_,rfl,hfin⟩
theorem TK (P : Program) (w:World) (dT sT ty elem:TypeId) (g dLen dCap sz:Nat) (a:Addr) (sLen sCap:Nat) (cur:Array Value) (t:TypeId) (cs:List Value)
  (hu:P.underlying dT = some (.slice elem)) (hs:(P.info? elem).map (·.size) = some sz)
  (hg:w.heap[g]? = some (.cells cur t (0,0))) (hn:cs.length = Nat.min sLen dLen*sz)
  (hsrc:∀ j v,cs[j]? = some v→w.cell? (a.add j) = some v) (hfit:0+cs.length≤cur.size) (h1:∀ v∈cs,v.oneCell' = true) :
  (Builtin.copy_ #[dT,sT] ty #[.slice (some ⟨g,0,none⟩) dLen dCap,.slice (some a) sLen sCap]).run P w =
   .ok (goInt (Nat.min sLen dLen)) (w.setRow g (cur.toList.take 0 ++ cs ++ cur.toList.drop (0+cs.length)).toArray):=by
 have hl:=run_loadCells_list (P:=P) w a cs hsrc
 rw [hn] at hl
 have hst:=run_storeCells_at P g 0 t cs 0 cur w hg (by simpa using hfit) h1
 cases hq:P.info? elem with
 | none=>simp [hq] at hs
 | some i =>
  have hi:i.size = sz:=by simpa [hq] using hs
  simp [Builtin.copy_,run_underlying hu,Builtin.lenOf,Builtin.firstCells,sizeOf,typeInfo,hq,hi,hl,hst]
theorem Kv (P : Program) (w:World) (dT sT ty elem:TypeId) (d a:Option Addr) (dLen dCap sLen sCap sz:Nat) (hu:P.underlying dT = some (.slice elem)) (hs:(P.info? elem).map (·.size) = some sz) (hn:Nat.min sLen dLen = 0) :
  (Builtin.copy_ #[dT,sT] ty #[.slice d dLen dCap,.slice a sLen sCap]).run P w = .ok (goInt 0) w:=by
 cases hq:P.info? elem with
 | none=>simp [hq] at hs
 | some i =>
  have hl:∀ (x:Addr),(loadCells x 0).run P w = .ok #[] w:=fun x=>by simpa using run_loadCells_list (P:=P) w x [] (by simp)
  cases d <;> cases a <;> simp [Builtin.copy_,run_underlying hu,Builtin.lenOf,Builtin.firstCells,sizeOf,typeInfo,hq,hn,storeCells,hl]
def Te (n : Nat) (F G:Nat→List D) (j:Nat):List D:=if j<n then F j else G j
theorem ZB {t t2 T m b bytes len cap N g e0 sz T2:Nat} {z z':Value} {d:TypeDesc} {x y:Operand} {L:List HE} {T0:TypeId} {F G:Nat→List D} (id i:Nat) (hx:AS.arg ⟨fr,hp⟩ x = .d (sX g len cap)) (hy:Em hp (AS.arg ⟨fr,hp⟩ y) = some (rD T2 sz F N)) (hh:hp[id]? = some (.obj (BD L))) (hi:L[i]? = some ⟨g,T0,flF G len⟩) (hG:∀ j,(G j).length = sz) (hF:∀ j,(F j).length = sz) (h00:0<sz) (ht:Tab P t (.slice T) m b z') (hT:Tab P T d sz bytes z) (hs:Dh hp id (.obj (BD (L.set i ⟨g,T0,flF (Te N F G) len⟩))) = some hp')
  (hd:Nat.blt e0 n = true) (h:AWl P s0 n ops Q rest ⟨(e0,.d Cu) :: fr,hp'⟩):AWl P s0 n ops Q (⟨some e0,.call { callee:=.builtin .copy,args:=#[x,y],argTypes:=#[t,t2] },ty,ps,af,none⟩ :: rest) ⟨fr,hp⟩:=by
 refine AWl.step rfl fun s ρ a hst K hK=>?_
 have hx':=hst.arg x
 rw [hx] at hx'
 have e1:a.eval x = .slice (some ⟨g,0,none⟩) len cap:=hx'
 obtain ⟨A,c,e2,h3,h4,h5⟩:=BX hst.hp (hst.arg y) hy
 rw [List.length_map,List.length_range] at e2 h3 h5
 obtain ⟨g1,-⟩:=DG (hst.hp id _ hh)
 obtain ⟨hT1,hS,cs,h6,h7,h8⟩:=g1 _ (List.mem_of_getElem? hi)
 simp only [Ca hG] at h7 h8
 obtain ⟨ii,hii,hz0,hsize,hby⟩:=hT.info
 have hinf:(P.info? T).map (·.size) = some sz:=by rw [hii,Option.map_some,hsize]
 have hCl:∀ j,(Te N F G j).length = sz:=fun j=>by
  unfold Te
  split
  ·exact hF j
  ·exact hG j
 obtain ⟨q,hq⟩:∃ q,q = Nat.min N len:=⟨_,rfl⟩
 have hqN:q≤N:=by rw [hq];exact Nat.min_le_left _ _
 have hql:q≤len:=by rw [hq];exact Nat.min_le_right _ _
 have hql':∀ j,j<len→j<N→j<q:=fun j h1 h2=>by rw [hq];exact Nat.lt_min.2 ⟨h2,h1⟩
 have hqs:q*sz≤len*sz:=Nat.mul_le_mul_right sz hql
 obtain ⟨vs,hvl,hrun,hvs⟩:∃ vs:List Value,vs.length = q*sz∧(execOp a.eval ⟨some e0,.call { callee:=.builtin .copy,args:=#[x,y],argTypes:=#[t,t2] },ty,ps,af,none⟩).run P s.w = .ok (.value (goInt q)) (s.w.setRow g (cs.toList.take 0 ++ vs ++ cs.toList.drop (0+vs.length)).toArray)∧∀ j,j<q*sz→∃ u,vs[j]? = some u∧u.oneCell' = true∧(BI (flF (Te N F G) len) j).rel s u:=by
  by_cases h0:q = 0
  ·refine ⟨[], by rw [h0, Nat.zero_mul]; rfl, ?_, fun j hj => absurd hj (by rw [h0, Nat.zero_mul]; omega)⟩
   have hrun:=Kv P s.w t t2 ty T (some ⟨g,0,none⟩) A len cap N c sz ht.und hinf (hq ▸ h0)
   have he:s.w.setRow g (cs.toList.take 0 ++ [] ++ cs.toList.drop (0+([]:List Value).length)).toArray = s.w:=by
    simp only [List.take_zero,List.nil_append,List.length_nil,List.drop_zero,Array.toArray_toList]
    exact setRow_self s.w g cs T0 (0,0) h6
   rw [he,h0]
   simp [execOp,resolve,invoke,builtin,e1,e2,hrun]
  ·obtain ⟨g2, p, rfl, h9⟩ := h5 (by omega)
   have hcell:∀ j,j<q*sz→∃ u,s.w.cell? ⟨g2,p+j,none⟩ = some u∧u.oneCell' = true∧(BI (flF (Te N F G) len) j).rel s u:=fun j hj=>by
    obtain ⟨k1,k2,k3⟩:=ND hj
    obtain ⟨h10,h11⟩:=h9 (j / sz) (by omega)
    have er:((List.range N).map F).getD (j / sz) [] = F (j / sz):=by
     have:j / sz<N:=by omega
     simp [this]
    rw [er] at h11
    obtain ⟨u,h12,h13,h14⟩:=h11.cell (k:=j % sz) (by rw [hF];exact k2)
    rw [Nat.add_assoc,← k3] at h12
    refine ⟨u,h12,h13,?_⟩
    have:BI (flF (Te N F G) len) j = BI (F (j / sz)) (j % sz):=by
     unfold BI
     rw [List.getD_eq_getElem?_getD,List.getD_eq_getElem?_getD]
     congr 1
     conv=>lhs;rw [k3]
     rw [Gl hCl (by omega) k2,Te,if_pos (by omega)]
    rw [this]
    exact h14
   obtain ⟨vf,hvf⟩:∃ vf:Nat→Value,∀ j,j<q*sz→s.w.cell? ⟨g2,p+j,none⟩ = some (vf j)∧(vf j).oneCell' = true∧(BI (flF (Te N F G) len) j).rel s (vf j):=⟨fun j=>(s.w.cell? ⟨g2,p+j,none⟩).getD undef,fun j hj=>by
    obtain ⟨u,y1,y2,y3⟩:=hcell j hj
    have e:(s.w.cell? ⟨g2,p+j,none⟩).getD undef = u:=by rw [y1];rfl
    show s.w.cell? ⟨g2,p+j,none⟩ = some ((s.w.cell? ⟨g2,p+j,none⟩).getD undef)∧((s.w.cell? ⟨g2,p+j,none⟩).getD undef).oneCell' = true∧(BI (flF (Te N F G) len) j).rel s ((s.w.cell? ⟨g2,p+j,none⟩).getD undef)
    rw [e]
    exact ⟨y1,y2,y3⟩⟩
   have hvl:((List.range (q*sz)).map vf).length = q*sz:=by simp
   have hva:∀ j u,((List.range (q*sz)).map vf)[j]? = some u→j<q*sz∧u = vf j:=fun j u hu=>by
    rw [List.getElem?_map] at hu
    by_cases hj:j<q*sz
    ·rw [List.getElem?_range hj] at hu
     cases hu
     exact ⟨hj,rfl⟩
    ·rw [List.getElem?_eq_none (by simpa using hj)] at hu
     cases hu
   refine ⟨(List.range (q*sz)).map vf,hvl,?_,fun j hj=>⟨vf j,by simp [hj],(hvf j hj).2⟩⟩
   have hrun := TK P s.w t t2 ty T g len cap sz ⟨g2, p, none⟩ N c cs T0 ((List.range (q * sz)).map vf) ht.und hinf h6 (by rw [hvl, hq]) (fun j v hv => by
    obtain ⟨hj,rfl⟩:=hva j v hv
    rw [Addr.add_lit]
    exact (hvf j hj).1) (by rw [hvl];omega) (fun v hv=>by
    obtain ⟨j,hj⟩:=List.mem_iff_getElem?.1 hv
    obtain ⟨hj2,e⟩:=hva j v hj
    rw [e]
    exact (hvf j hj2).2.1)
   rw [← hq] at hrun
   simp [execOp,resolve,invoke,builtin,e1,e2,hrun]
 unfold Oper.wp
 rw [hrun]
 have hfin := Fe hst hh hi (W := s.w.setRow g (cs.toList.take 0 ++ vs ++ cs.toList.drop (0 + vs.length)).toArray) (cs' := (cs.toList.take 0 ++ vs ++ cs.toList.drop (0 + vs.length)).toArray) (ds' := flF (Te N F G) len) rfl rfl rfl (by simp [World.setRow]) (fun b hb => setRow_other s.w g b _ hb) (setRow_heap s.w g cs _ T0 _ h6)
  (by rw [Ca hCl]; simp; omega) (fun k hk => by
   rw [Ca hCl] at hk
   rw [Hi (by rw [hvl];omega)]
   simp only [Nat.zero_le,true_and,Nat.zero_add,Nat.sub_zero,hvl]
   by_cases hr:k<q*sz
   ·rw [if_pos hr]
    exact hvs k hr
   ·rw [if_neg hr]
    obtain ⟨u,y1,y2,y3⟩:=h8 k hk
    refine ⟨u,y1,y2,?_⟩
    have k0:=ND hk
    obtain ⟨k1,k2,k3⟩:=k0
    have hge:¬ k / sz<N:=fun hlt=>by
     have:=hql' _ k1 hlt
     have h2:(k / sz+1)*sz≤q*sz:=Nat.mul_le_mul_right sz this
     rw [Nat.succ_mul] at h2
     omega
    have:BI (flF (Te N F G) len) k = BI (flF G len) k:=by
     unfold BI
     rw [List.getD_eq_getElem?_getD,List.getD_eq_getElem?_getD]
     congr 1
     conv=>lhs;rw [k3]
     conv=>rhs;rw [k3]
     rw [Gl hCl k1 k2,Gl hG k1 k2,Te,if_neg hge]
    rw [this]
    exact y3) hs
 exact hK _ _ _ h ⟨_,ρ,rfl,hfin.put (GS.Le.refl _) (dst:=some e0) (fun d hd'=>by cases hd';simpa [Nat.blt_eq] using hd) (r:=.d Cu) trivial⟩
end
section
variable {P : Program} {hp:List Ow} {arg:Operand→AV} {dd:Option Tmp} {ty:TypeId} {ps:String} {af:Array Edge} {gd:Option (Nat × Bool)}
theorem A0G {T U:TypeId} {x y:Operand} {a n:Nat} (hx:arg x = .d (ex (.int .i64 (a:Nat)))) (hy:arg y = .d (ex (.int .i64 (n:Nat)))) (hn:n≤63) (ha:a*2 ^ n≤9223372036854775807):Quiet P hp ⟨dd,.binOp .shl T x y U,ty,ps,af,gd⟩ arg (.d (ex (.int .i64 ((a*2 ^ n:Nat):Int)))):=by
 refine ⟨fun base s ρ ev hok hbs hhp h=>?_⟩
 have h1:=h x (by simp [Op.operands])
 have h2:=h y (by simp [Op.operands])
 rw [hx] at h1;rw [hy] at h2
 have e1:ev x = .int .i64 (a:Nat):=h1
 have e2:ev y = .int .i64 (n:Nat):=h2
 have hm:Min.min n IntKind.i64.bits = n:=Nat.min_eq_left (by show n≤64;omega)
 have hw:IntKind.i64.wrap ((a:Int)*2 ^ n) = ((a*2 ^ n:Nat):Int):=by
  have e:(a:Int)*2 ^ n = ((a*2 ^ n:Nat):Int):=by norm_cast
  rw [e]
  exact IntWalk.i64_in _ (by omega)
 refine Bl (v:=.int .i64 ((a*2 ^ n:Nat):Int)) ?_ ⟨GS.Le.refl s,rfl⟩
 have hneg:¬ ((n:Int)<0):=by omega
 simp [execOp,e1,e2,eqGuard,binOp,Op.shift,hneg,hm,hw]
theorem Qo {T U:TypeId} {x y:Operand} {a b:Nat} (hx:arg x = .d (ex (.int .u8 (a:Nat)))) (hy:arg y = .d (ex (.int .u8 (b:Nat)))) (ha:a<256) (hb:b<256):Quiet P hp ⟨dd,.binOp .andNot T x y U,ty,ps,af,gd⟩ arg (.d (ex (.int .u8 ((a &&& (255 - b):Nat):Int)))):=by
 refine Xs hx hy fun w=>?_
 have h1:(BitVec.ofInt 8 (a:Int) &&& ~~~ BitVec.ofInt 8 (b:Int)).toNat = a &&& (255 - b):=by
  rw [BitVec.toNat_and,BitVec.toNat_not,BitVec.ofInt_natCast,BitVec.ofInt_natCast,BitVec.toNat_ofNat,BitVec.toNat_ofNat,Nat.mod_eq_of_lt ha,Nat.mod_eq_of_lt hb]
 have h2:a &&& (255 - b)<256:=Nat.lt_of_le_of_lt Nat.and_le_left ha
 have h3:IntKind.u8.wrap ((a &&& (255 - b):Nat):Int) = ((a &&& (255 - b):Nat):Int):=by
  unfold IntKind.wrap
  have:(((a &&& (255 - b):Nat):Int)) % (2 ^ IntKind.u8.bits:Int) = ((a &&& (255 - b):Nat):Int):=Int.emod_eq_of_lt (by omega) (by show _<(256:Int);omega)
  simp [this,IntKind.signed]
 have h4:(BitVec.ofInt IntKind.u8.bits (a:Int) &&& ~~~ BitVec.ofInt IntKind.u8.bits (b:Int)).toNat = a &&& (255 - b):=h1
 have h5:((BitVec.ofInt IntKind.u8.bits (a:Int) &&& ~~~ BitVec.ofInt IntKind.u8.bits (b:Int)).toNat:Int) = ((a &&& (255 - b):Nat):Int):=by rw [h4]
 show Sem.run P (do eqGuard .andNot T x y (.int .u8 a) (.int .u8 b);binOp .andNot T (.int .u8 a) (.int .u8 b)) w = _
 simp only [eqGuard,binOp,Op.intBits,h5,h3]
 rfl
end
theorem A1r {a : Nat} (h:a<256):IntKind.u8.wrap (a:Int) = a:=by
 unfold IntKind.wrap
 have:((a:Int)) % (2 ^ IntKind.u8.bits:Int) = (a:Int):=Int.emod_eq_of_lt (by omega) (by show _<(256:Int);omega)
 simp [this,IntKind.signed]
theorem Qm {P : Program} {hp:List Ow} {arg:Operand→AV} {dd:Option Tmp} {ty:TypeId} {ps:String} {af:Array Edge} {gd:Option (Nat × Bool)} {S T:TypeId} {x:Operand} {k:IntKind} {a:Nat} {d:TypeDesc} {n b n' b':Nat} {z z':Value} (hx:arg x = .d (ex (.int k (a:Nat)))) (hS:Tab P S d n b z) (hT:Tab P T (.int .u8) n' b' z') (h:a<256):Quiet P hp ⟨dd,.convert S T x,ty,ps,af,gd⟩ arg (.d (ex (.int .u8 (a:Nat)))):=by
 have:=Tl (dd:=dd) (ty:=ty) (ps:=ps) (af:=af) (gd:=gd) (hp:=hp) hx hS hT
 rwa [A1r h] at this
theorem MY {y : Nat→Int} {n:Nat} (h:SupN n y):BY y 8 / 2 ^ n = 0:=by
 refine Nat.div_eq_of_lt (Nat.lt_pow_two_of_testBit _ fun i hi=>?_)
 by_cases h8:i<8
 ·rw [FZ y 8 i h8]
  have:=(h i h8).2 hi
  simp [this]
 ·refine Nat.testBit_lt_two_pow (Nat.lt_of_lt_of_le (DX y 8) (Nat.pow_le_pow_right (by decide) (by omega)))
theorem WC (l : Af) (n:Nat) (hn:n≤8) (hl:l.length≤12) (h1:∀ y∈l,In8 y 0 64) (h2:∀ y∈l,SupN n y):Abs Tryz.prog 46 [BW l,ex (.int .i64 (n:Nat))] (ex (.int .i64 0)):=by
 refine Uu l n l.length l.length 0 hn (by omega) (Nat.le_refl _) (fun k hk=>⟨fun j hj=>?_,MY (h2 _ (GJ hk))⟩) (Nat.le_refl _) (.inr ⟨rfl,.inr ⟨hl,fun k hk=>?_,.inr ⟨rfl,rfl⟩⟩⟩)
 ·have:=h1 _ (GJ hk) j hj
  omega
 ·obtain ⟨i,h3,h4,_⟩:=VQ (Bn l k) 7
  rw [h4]
  exact (h1 _ (GJ hk) i (by omega)).2
theorem MR (l : Af) (n N:Nat) (f:Nat→Int) (ck:Abs Tryz.prog 46 [BW l,ex (.int .i64 (n:Nat))] (ex (.int .i64 0))) (cn:Abs Tryz.prog 47 [BW l] (nD N f)):Abs Tryz.prog 14 [BW l,ex (.int .i64 (n:Nat))] (DM [nD N f,ex (.int .i64 0)]):=by
 refine Ab Tryz.func14 fun s0=>?_
 rw [Tryz.ntmps14]
 refine Y1<|Wa<|Wa<|Y0<|Ac<|Y1<|Wm<|Wm ?_;refine Wq (Ai (ck)) ?_;refine Wa<|Y0<|Y1<|Wm ?_;refine Wq At ?_;apply Y0;refine Cf ?_;refine Ys<|Y1<|Wm ?_;refine Wq (Ai (cn)) ?_;refine Wa<|Wa<|Y0 ?_;apply Aw
 exact BQ (CW (ResV.tmp rfl rfl) (ResV.tmp rfl rfl) (Cy (D.le.refl _) (D.le.refl _)))
theorem A08 (n : Nat):List.replicate n (ex (.int .i64 0)) = nC (fun _=>0) n:=by
 unfold nC
 rw [List.map_const',List.length_range]
theorem A0w {N : Nat} {f:Nat→Int} (far:∀ i,N≤i→f i = 0):cpF N f (fun _=>0) = f:=by
 funext j
 unfold cpF
 split
 ·rfl
 ·exact (far j (by omega)).symm
theorem MU (l : Af) (n d N:Nat) (f:Nat→Int) (B:Int) (hn:n≤8) (hd:d≤64) (ck:Abs Tryz.prog 46 [BW l,ex (.int .i64 (n:Nat))] (ex (.int .i64 0))) (cn:Abs Tryz.prog 47 [BW l] (nD N f)) (far:∀ i,N≤i→f i = 0) (hb:Bnd f d B) (hB:B*((d:Int)+1) ^ n≤9223372036854775807):Abs Tryz.prog 16 [BW l,ex (.int .i64 (n:Nat)),ex (.int .i64 (d:Nat))] (DM [ex (.int .i64 (Cr n f d)),ex (.int .i64 0)]):=by
 have hpow:∀ j,j≤n→B*((d:Int)+1) ^ j≤9223372036854775807:=fun j hj=>by
  refine Int.le_trans (Int.mul_le_mul_of_nonneg_left ?_ hb.pos) hB
  have:(d+1) ^ j≤(d+1) ^ n:=Nat.pow_le_pow_right (by omega) hj
  exact_mod_cast this
 have hadd:∀ j,j<n→∀ i,i<d→-9223372036854775808≤kS (Cr j f) i (i+1)+kS (Cr j f) i i∧kS (Cr j f) i (i+1)+kS (Cr j f) i i≤9223372036854775807:=fun j hj i hi=>by
  have h1:=hb.sumn (j+1) (i+1) (by omega)
  have h2:=hpow (j+1) (by omega)
  have h3:Cr (j+1) f (i+1) = pS (Cr j f) i+Cr j f (i+1):=rfl
  rw [Nz,SV]
  omega
 have hdn:d+1≤1000000:=by omega
 refine Ab Tryz.func16 fun s0=>?_
 rw [Tryz.ntmps16]
 refine Y1<|Wa<|Wa<|Y0<|Ac<|Y1<|Wm<|Wm ?_;refine Wq (Ai (ck)) ?_;refine Wa<|Y0<|Y1<|Wm ?_;refine Wq At ?_;apply Y0;refine Cf ?_;refine Ys<|Ac<|Y1<|Wm ?_;refine Wq At ?_;refine Wm ?_;refine Wg Ar ?_;refine Wg At ?_;refine Wq Bz ?_;apply Y0;refine Cf ?_;refine Ys<|Y1<|Wm ?_;refine Wq Bd ?_;refine ZA (c:=d+1) (ao rfl) (ao rfl) (Ae rfl) (Ae rfl) rfl rfl hdn rfl rfl rfl rfl (fun g=>rfl) fun g=>?_;refine Wa<|Y0<|Y1<|Wm<|Wm ?_;refine Wq (Ai (cn)) ?_;refine ZC (f:=f) (N:=N) (len:=d+1) 0 0 (ao rfl) rfl rfl (congrArg (fun ds=>some (HE.mk g 3 ds)) (A08 (d+1))) (Ae rfl) (Ae rfl) rfl rfl ?_;refine Y0<|Ac<|Y1<|Wm<|Wm<|Y0<|AWp.block ?_
 refine AT (fun mz σ=>∃ k,k≤n∧mz = n - k∧σ = ⟨[(2,.d (ex (.int .i64 (d:Nat)))),(9,.d (sX g (d+1) (d+1))),(30,.d (ex (.int .i64 (n:Nat)))),(31,.d (ex (.int .i64 (k:Nat))))],[.obj (BD [⟨g,3,nC (Cr k f) (d+1)⟩])]⟩) ?le ⟨0,by omega,rfl,rfl⟩ ?round
 case le=>exact Ao (by exact Yd<|Yd<|Yd<|Yd<|FrLe.nil) (by (refine HpLe.cons (OwLe.obj (by rw [A0w far];rfl)) ?_);exact HpLe.nil)
 case round =>
  rintro mz _ ⟨k,hk,rfl,rfl⟩
  by_cases hlt:k<n
  ·apply Y1;refine Wq AA ?_;refine Y0<|Ac ?_;refine Ct ?_;refine Ys<|Ac<|AWp.block<|Y1<|Wm<|Wm<|Y0<|AWp.block ?_
   refine AT (fun mz σ=>∃ i,i≤d∧mz = d - i∧σ = ⟨[(2,.d (ex (.int .i64 (d:Nat)))),(9,.d (sX g (d+1) (d+1))),(30,.d (ex (.int .i64 (n:Nat)))),(31,.d (ex (.int .i64 (k:Nat)))),(33,.d (ex (.int .i64 (d:Nat)))),(34,.d (ex (.int .i64 (i:Nat))))],[.obj (BD [⟨g,3,nC (kS (Cr k f) i) (d+1)⟩])]⟩) ?lei ⟨0,by omega,rfl,rfl⟩ ?roundi
   case lei=>exact Ao (by exact Yd<|Yd<|Yd<|Yd<|Yd<|Yd<|FrLe.nil) (by exact HpLe.cons (OwLe.obj (by rw [ST]))<|HpLe.nil)
   case roundi =>
    rintro mz _ ⟨i,hi,rfl,rfl⟩
    by_cases hlti:i<d
    ·have ha:=hadd k hlt i hlti
     have hst:SetAt (nC (kS (Cr k f) i) (d+1)) ((i+1)*1) [ex (.int .i64 (kS (Cr k f) i (i+1)+kS (Cr k f) i i))] (nC (kS (Cr k f) (i+1)) (d+1)):=SU (Cr k f) i ▸ Ra (by omega)
     apply Y1;refine Wq AA ?_;refine Y0<|Ac ?_;refine Ct ?_;refine Ys<|Ac<|AWp.block<|Y1<|Wm<|Wa<|Y0 ?_
     refine Dr [[],[],[(38,1)],[(37,0),(39,2)],[(40,3)],[],[],[(42,5),(43,6)],[(44,7)],[(41,4),(45,8)],[(37,0),(39,2)]] [[],[],[1],[0,1,2],[0,1,2,3],[],[],[5,6],[5,6,7],[0,1,2,3,4,5,6,7,8],[0,1,2,3,4,5,6,7,8,9]] ?_
     refine Xq Ar ?_;refine Xq Ar ?_;refine Xq Bd ?_;refine Xq (CO (k:=i+1) (ah rfl) (ah rfl) (Ae rfl) (Ae rfl) (by omega)) ?_;refine Xq (NY (e:=⟨g,3,nC (kS (Cr k f) i) (d+1)⟩) 0 0 (ah rfl) rfl rfl (Ae rfl) rfl (Fy (by omega))) ?_;refine Xq Ar ?_;refine Xq Ar ?_;refine Xq (CO (k:=i) (ah rfl) (ah rfl) (Ae rfl) (Ae rfl) (by omega)) ?_;refine Xq (NY (e:=⟨g,3,nC (kS (Cr k f) i) (d+1)⟩) 0 0 (ah rfl) rfl rfl (Ae rfl) rfl (Fy (by omega))) ?_;refine Xq Fl ?_;refine Xq (CO (k:=i+1) (ah rfl) (ah rfl) (Ae rfl) (Ae rfl) (by omega)) ?_;refine ⟨_,rfl,?_⟩
     refine XC (e:=⟨g,3,nC (kS (Cr k f) i) (d+1)⟩) 0 0 (ao rfl) (ao rfl) rfl rfl (Ae rfl) (DK rfl) hst rfl ?_;apply AWl.nil;apply As;refine Yn<|AWp.region ?_;refine Wq Bd ?_;refine Wm ?_;apply AWl.nil
     refine ALoop.next (d - (i+1)) (by omega) ⟨i+1,by omega,rfl,rfl⟩ ?_
     exact Ao (by exact Yd<|Yd<|Yd<|Yd<|Yd<|Yd<|FrLe.nil) (by exact HpLe.cons (OwLe.obj rfl)<|HpLe.nil)
    ·obtain rfl : d = i := by omega
     apply Y1;refine Wq At ?_;refine Y0<|Ac ?_;refine Cf ?_;apply AP;apply AF;apply AG;apply AH;apply As;refine Yn<|AWp.region ?_;refine Wq Bd ?_;refine Wm ?_;apply AWl.nil
     refine ALoop.next (n - (k+1)) (by omega) ⟨k+1,by omega,rfl,rfl⟩ ?_
     exact Ao (by exact Yd<|Yd<|Yd<|Yd<|FrLe.nil) (by refine HpLe.cons (OwLe.obj (by rw [VP (f:=kS (Cr k f) d) (f':=Cr (k+1) f) fun t ht=>if_pos (by omega)])) ?_;exact HpLe.nil)
  ·obtain rfl : k = n := by omega
   apply Y1;refine Wq At ?_;refine Y0<|Ac ?_;refine Cf ?_;apply AP;apply AF;apply AG;apply AH;refine Yn<|Y1<|Wm<|Wm ?_;refine Wq (CO (k:=d) (ao rfl) (ao rfl) (Ae rfl) (Ae rfl) (by omega)) ?_;refine Wq (NY (e:=⟨g,3,nC (Cr k f) (d+1)⟩) 0 0 (ao rfl) rfl rfl (Ae rfl) rfl (Fy (by omega))) ?_;refine Wa<|Wa<|Y0 ?_;apply Aw
   exact BQ (CW (ResV.tmp rfl rfl) (ResV.tmp rfl rfl) (Cy (D.le.refl _) (D.le.refl _)))
def LL (a : Nat→Int) (s:Nat):Bool:=decide (((BY a 8 &&& (255 - s):Nat):Int) = 0)
abbrev ZR (s : Nat):Ow:=.var 3 [.d (ex (.int .i64 (s:Nat)))]
theorem KL (a : Nat→Int) (s:Nat) (hs:s<256):Con Tryz.prog 101 [.d (BO (Ba a)),.ptr 0 0] [ZR s] [] (fun r hp'=>r = .d (ex (.bool (LL a s)))∧hp' = [ZR s,.dead,.var 55 ((Ba a).map .d)]):=by
 have hsl:BY a 8<256:=DX a 8
 refine BH Tryz.func101 rfl (Am Tryz.func101 (by kernel_rfl) (by kernel_rfl)) rfl fun s0 pv0=>?_
 rw [Tryz.ntmps101]
 apply Y1;refine Bx ?_;refine Wa<|Y0<|Ac ?_
 refine Dr [[],[(4,0)],[],[(6,2)],[(5,1),(7,3)],[(8,4)]] [[],[0],[],[2],[0,1,2,3],[0,1,2,3,4]] ?_
 refine Xq AN ?_;refine Xq (Ai (Gf a)) ?_;refine Xq Hl ?_;refine Xq (Qm (a:=s) (ah rfl) (Ae rfl) (Ae rfl) hs) ?_;refine Xq (Qo (a:=BY a 8) (b:=s) (ah rfl) (ah rfl) hsl hs) ?_;refine Xq Lp ?_;refine ⟨_,rfl,?_⟩
 refine Wa<|Y0 ?_;apply Aw
 refine BA (RetsA.one rfl) rfl ?_ rfl
 exact ⟨rfl,rfl⟩
theorem RJ (l : Af) (s z:Nat) (hs:s<256) (hl:l.length≤1000) (hz:z≤l.length) (hp:∀ k,k<z→LL (Bn l k) s = false) (he:z<l.length→LL (Bn l z) s = true):Con Tryz.prog 138 [.d (BW l),.fn 101 [0]] [ZR s] [] (fun r hp'=>r = .d (ex (.int .i64 (if z<l.length then (z:Nat) else -1)))∧∃ tl,hp' = ZR s :: .dead :: tl∧(tl = []∨∃ a:Nat→Int,tl = [.dead,.var 55 ((Ba a).map .d)])):=by
 refine BH Tryz.func138 rfl (Am Tryz.func138 (by kernel_rfl) (by kernel_rfl)) rfl fun s0 pv0=>?_
 rw [Tryz.ntmps138]
 refine Y1<|Wa<|Y0<|Ac<|Y1<|Wm ?_;refine Wq (Dd rfl rfl (Ae rfl)) ?_;refine Wm<|Y0<|AWp.block ?_
 refine AT (fun mz σ=>∃ k,k≤z∧mz = z - k∧σ = ⟨[(0,.d (BW l)),(1,.fn 101 [0]),(6,.d (BW l)),(7,.d (ex (.int .i64 (l.length:Nat)))),(8,.d (ex (.int .i64 (k:Nat))))],[ZR s,.pin [(pv0,.own 0)]]⟩) ?le ⟨0,by omega,rfl,rfl⟩ ?round
 case le=>exact Ao (by exact Yd<|FrLe.cons rfl (AVle.fn rfl)<|Yd<|Yd<|Yd<|FrLe.nil) (by exact HpLe.cons (BV rfl)<|HpLe.cons (Bi rfl)<|HpLe.nil)
 case round =>
  rintro mz _ ⟨k,hk,rfl,rfl⟩
  by_cases hlt:k<z
  ·have hlt' : k < l.length := by omega
   have hk:=hp k hlt
   apply Y1;refine Wq AA ?_;refine Y0<|Ac ?_;refine Ct ?_;refine Ys<|Ac<|AWp.block<|Y1<|Wm<|Wa<|Y0<|Y1<|Wm<|Wm<|Wm ?_;refine Wq BU ?_;refine Wq BE ?_
   refine Bt [0] [0] (KL (Bn l k) s hs) (by first | exact Or.inl rfl | exact Or.inr ⟨by decide,rfl,by repeat (first | exact AvoidR.nil | refine AK rfl ?_ | refine AvoidR.dead ?_ | refine AO ?_ | refine AvoidR.obj ?_ | refine AI ?_ | refine AJ rfl ?_ | refine AvoidR.pin rfl ?_)⟩) rfl rfl (by first | exact .inl ⟨rfl,rfl⟩ | exact .inr ⟨rfl,rfl⟩) (by repeat (first | exact ArgsC.nil | refine ArgsC.d rfl (D.le.refl _) ?_ | refine AZ rfl rfl ?_)) (by decide) (by repeat (first | exact SelR.nil | refine SelR.var rfl ?_ | refine SelR.obj rfl ?_ | refine Bh rfl ?_ | refine AU rfl rfl rfl ?_)) (by repeat (first | exact trivial | refine ⟨⟨_,_,rfl⟩,?_⟩)) rfl ?_
   rintro _ _ ⟨rfl,rfl⟩
   refine ⟨_,_,_,(by first | exact AVRen.d | exact AVRen.own rfl | exact AVRen.ptr rfl | exact AVRen.fn rfl),(by repeat (first | exact SetR.nil | (apply SetR.cons;(first | exact OwRen.dead | exact Aj | exact OwRen.obj | exact Aq | exact Ak rfl);exact rfl))),(by repeat (first | exact AppR.nil | (apply AppR.cons;(first | exact OwRen.dead | exact Aj | exact OwRen.obj | exact Aq | exact Ak rfl);exact rfl))),?_⟩
   try simp only [Bc,Bw]
   rw [hk]
   apply Y0;refine Cf ?_;apply BJ;apply As;refine Yn<|AWp.region ?_;refine Wq Bd ?_;refine Wm ?_;apply AWl.nil
   refine ALoop.next (z - (k+1)) (by omega) ⟨k+1,by omega,rfl,rfl⟩ ?_
   exact Ao (by exact Yd<|FrLe.cons rfl (AVle.fn rfl)<|Yd<|Yd<|Yd<|FrLe.nil) (by exact HpLe.cons (BV rfl)<|HpLe.cons (Bi rfl)<|HpLe.nil)
  ·obtain rfl : k = z := by omega
   by_cases hlt:k<l.length
   ·have hk:=he hlt
    apply Y1;refine Wq AA ?_;refine Y0<|Ac ?_;refine Ct ?_;refine Ys<|Ac<|AWp.block<|Y1<|Wm<|Wa<|Y0<|Y1<|Wm<|Wm<|Wm ?_;refine Wq BU ?_;refine Wq BE ?_
    refine Bt [0] [0] (KL (Bn l k) s hs) (by first | exact Or.inl rfl | exact Or.inr ⟨by decide,rfl,by repeat (first | exact AvoidR.nil | refine AK rfl ?_ | refine AvoidR.dead ?_ | refine AO ?_ | refine AvoidR.obj ?_ | refine AI ?_ | refine AJ rfl ?_ | refine AvoidR.pin rfl ?_)⟩) rfl rfl (by first | exact .inl ⟨rfl,rfl⟩ | exact .inr ⟨rfl,rfl⟩) (by repeat (first | exact ArgsC.nil | refine ArgsC.d rfl (D.le.refl _) ?_ | refine AZ rfl rfl ?_)) (by decide) (by repeat (first | exact SelR.nil | refine SelR.var rfl ?_ | refine SelR.obj rfl ?_ | refine Bh rfl ?_ | refine AU rfl rfl rfl ?_)) (by repeat (first | exact trivial | refine ⟨⟨_,_,rfl⟩,?_⟩)) rfl ?_
    rintro _ _ ⟨rfl,rfl⟩
    refine ⟨_,_,_,(by first | exact AVRen.d | exact AVRen.own rfl | exact AVRen.ptr rfl | exact AVRen.fn rfl),(by repeat (first | exact SetR.nil | (apply SetR.cons;(first | exact OwRen.dead | exact Aj | exact OwRen.obj | exact Aq | exact Ak rfl);exact rfl))),(by repeat (first | exact AppR.nil | (apply AppR.cons;(first | exact OwRen.dead | exact Aj | exact OwRen.obj | exact Aq | exact Ak rfl);exact rfl))),?_⟩
    try simp only [Bc,Bw]
    rw [hk]
    apply Y0;refine Ct ?_;refine Y1<|Wm<|Wa<|Y0 ?_;apply Aw;apply Cj;apply AR;apply Ev;apply Cj;apply AR
    refine BA (RetsA.one rfl) rfl ?_ rfl
    exact ⟨by rw [if_pos hlt],_,rfl,.inr ⟨_,rfl⟩⟩
   ·apply Y1;refine Wq At ?_;refine Y0<|Ac ?_;refine Cf ?_;apply AP;apply AF;apply AG;apply AH;refine Yn<|Y1<|Wa<|Y0 ?_;apply Aw
    refine BA (RetsA.one rfl) rfl ?_ rfl
    exact ⟨by rw [if_neg hlt],_,rfl,.inl rfl⟩
theorem Sw {e : Nat→Nat} {T:TypeId} {x:D}:Ow.ren e (.var T [.d x]) = .var T ([x].map .d):=rfl
theorem Wi {m T:Nat} {u:D}:Low m (.var T [.d u]):=Low.var fun av hav m' ρ s v h=>by
 rw [List.mem_singleton.1 hav] at h ⊢
 exact h
theorem Qv {P : Program} {f:FuncId} {args:List AV} {s:Nat} {T:Nat} {u x:D} (h:Con P f args [.var T [.d u]] [] (fun r hp'=>r = .d x∧∃ tl,hp' = .var T [.d u] :: .dead :: tl)):Con P f args [.var T [.d u]] [] (fun r hp'=>r = .d x∧hp' = [.var T [.d u],.dead]) :=
 h.cut fun r hp' ⟨h1, tl, h2⟩ => ⟨x, [.var T [.d u], .dead], tl, h1, h2, by simp, fun o ho => by
  rcases List.mem_cons.1 ho with rfl | ho
  ·exact Wi
  ·rw [List.mem_singleton.1 ho]
   exact Low.dead,rfl,rfl⟩
theorem YR (p : (Nat→Int)→Bool) (l:Af):∃ z,z≤l.length∧(∀ k,k<z→p (Bn l k) = false)∧(z<l.length→p (Bn l z) = true)∧l.any p = decide (z<l.length):=by
 induction l with
 | nil=>exact ⟨0,Nat.le_refl 0,fun k hk=>absurd hk (by omega),fun h=>absurd h (by simp),rfl⟩
 | cons a l ih =>
  cases ha:p a with
  | true=>exact ⟨0,by simp,fun k hk=>absurd hk (by omega),fun _=>ha,by simp [ha]⟩
  | false =>
   obtain ⟨z,h1,h2,h3,h4⟩:=ih
   refine ⟨z+1,by simpa using h1,fun k hk=>?_,fun h=>h3 (by simpa using h),by simp [ha,h4]⟩
   cases k with
   | zero=>exact ha
   | succ k=>exact h2 k (by omega)
theorem Vc (l : Af) (s:Nat) (hs:s<256) (hl:l.length≤1000):Con Tryz.prog 102 [.d (BW l),.fn 101 [0]] [ZR s] [] (fun r hp'=>r = .d (ex (.bool (l.any (LL · s))))∧hp' = [ZR s,.dead,.dead]):=by
 obtain ⟨z,h1,h2,h3,h4⟩:=YR (LL · s) l
 rw [h4]
 have c:=(RJ l s z hs hl h1 h2 h3).mono (Q':=fun r hp'=>r = .d (ex (.int .i64 (if z<l.length then (z:Nat) else -1)))∧∃ tl,hp' = ZR s :: .dead :: tl) fun r hp' ⟨q1,tl,q2,_⟩=>⟨q1,tl,q2⟩
 have c:=Qv (s:=s) c
 by_cases hz:z<l.length
 ·rw [if_pos hz] at c
  rw [decide_eq_true hz]
  refine BH Tryz.func102 rfl (Am Tryz.func102 (by kernel_rfl) (by kernel_rfl)) rfl fun s0 pv0=>?_
  rw [Tryz.ntmps102]
  refine Y1<|Wa<|Y0<|Y1<|Wm<|Wm ?_
  refine Bt [0] [] (c) (by first | exact Or.inl rfl | exact Or.inr ⟨by decide,rfl,by repeat (first | exact AvoidR.nil | refine AK rfl ?_ | refine AvoidR.dead ?_ | refine AO ?_ | refine AvoidR.obj ?_ | refine AI ?_ | refine AJ rfl ?_ | refine AvoidR.pin rfl ?_)⟩) rfl rfl (by first | exact .inl ⟨rfl,rfl⟩ | exact .inr ⟨rfl,rfl⟩) (by repeat (first | exact ArgsC.nil | refine ArgsC.d rfl (D.le.refl _) ?_ | refine AZ rfl rfl ?_)) (by decide) (by repeat (first | exact SelR.nil | refine SelR.var rfl ?_ | refine SelR.obj rfl ?_ | refine Bh rfl ?_ | refine AU rfl rfl rfl ?_)) (by repeat (first | exact trivial | refine ⟨⟨_,_,rfl⟩,?_⟩)) rfl ?_
  rintro _ _ ⟨rfl,rfl⟩
  refine ⟨_,_,_,(by first | exact AVRen.d | exact AVRen.own rfl | exact AVRen.ptr rfl | exact AVRen.fn rfl),(by repeat (first | exact SetR.nil | (apply SetR.cons;(first | exact OwRen.dead | exact Aj | exact OwRen.obj | exact Aq | exact Ak rfl);exact rfl))),(by repeat (first | exact AppR.nil | (apply AppR.cons;(first | exact OwRen.dead | exact Aj | exact OwRen.obj | exact Aq | exact Ak rfl);exact rfl))),?_⟩
  try simp only [Bc,Bw]
  refine Wq AA ?_;refine Wa<|Y0 ?_;apply Aw
  refine BA (RetsA.one rfl) rfl ?_ rfl
  exact ⟨rfl,rfl⟩
 ·rw [if_neg hz] at c
  rw [decide_eq_false hz]
  refine BH Tryz.func102 rfl (Am Tryz.func102 (by kernel_rfl) (by kernel_rfl)) rfl fun s0 pv0=>?_
  rw [Tryz.ntmps102]
  refine Y1<|Wa<|Y0<|Y1<|Wm<|Wm ?_
  refine Bt [0] [] (c) (by first | exact Or.inl rfl | exact Or.inr ⟨by decide,rfl,by repeat (first | exact AvoidR.nil | refine AK rfl ?_ | refine AvoidR.dead ?_ | refine AO ?_ | refine AvoidR.obj ?_ | refine AI ?_ | refine AJ rfl ?_ | refine AvoidR.pin rfl ?_)⟩) rfl rfl (by first | exact .inl ⟨rfl,rfl⟩ | exact .inr ⟨rfl,rfl⟩) (by repeat (first | exact ArgsC.nil | refine ArgsC.d rfl (D.le.refl _) ?_ | refine AZ rfl rfl ?_)) (by decide) (by repeat (first | exact SelR.nil | refine SelR.var rfl ?_ | refine SelR.obj rfl ?_ | refine Bh rfl ?_ | refine AU rfl rfl rfl ?_)) (by repeat (first | exact trivial | refine ⟨⟨_,_,rfl⟩,?_⟩)) rfl ?_
  rintro _ _ ⟨rfl,rfl⟩
  refine ⟨_,_,_,(by first | exact AVRen.d | exact AVRen.own rfl | exact AVRen.ptr rfl | exact AVRen.fn rfl),(by repeat (first | exact SetR.nil | (apply SetR.cons;(first | exact OwRen.dead | exact Aj | exact OwRen.obj | exact Aq | exact Ak rfl);exact rfl))),(by repeat (first | exact AppR.nil | (apply AppR.cons;(first | exact OwRen.dead | exact Aj | exact OwRen.obj | exact Aq | exact Ak rfl);exact rfl))),?_⟩
  try simp only [Bc,Bw]
  refine Wq At ?_;refine Wa<|Y0 ?_;apply Aw
  refine BA (RetsA.one rfl) rfl ?_ rfl
  exact ⟨rfl,rfl⟩
def TE (L : List Nat):D:=slD 5 1 (L.map fun s=>[ex (.int .u8 (s:Nat))])
def NB (l : Af) (s:Nat):Bool := !l.any (LL · s)
def Ei (l : Af) (k:Nat):List Nat:=(List.range k).filter (NB l)
theorem Mv (l : Af) (k:Nat):Ei l (k+1) = if NB l k = true then Ei l k ++ [k] else Ei l k:=by
 unfold Ei
 rw [List.range_succ,List.filter_append,List.filter_cons]
 split <;> simp
theorem NA (l : Af) (k:Nat):(Ei l k).length≤k:=by
 have:=List.length_filter_le (NB l) (List.range k)
 rwa [List.length_range] at this
theorem RZ (L : List Nat) (k:Nat):(L.map fun s=>[ex (.int .u8 ((s:Nat):Int))]) ++ [[ex (.int .u8 ((k:Nat):Int))]] = (L ++ [k]).map fun s=>[ex (.int .u8 ((s:Nat):Int))]:=by simp
theorem Mu (l : Af) (n:Nat) (hn:n≤8) (hl:l.length≤1000):Abs Tryz.prog 52 [BW l,ex (.int .i64 (n:Nat))] (TE (Ei l (2 ^ n))):=by
 have h256:2 ^ n≤256:=by
  have:=Nat.pow_le_pow_right (n:=2) (by decide) hn
  exact this
 have hsh:1*2 ^ n≤9223372036854775807:=by omega
 have e1:1*2 ^ n = 2 ^ n:=Nat.one_mul _
 refine Ab Tryz.func52 fun s0=>?_
 rw [Tryz.ntmps52]
 refine Y1<|Wa<|Y0<|Y1<|Wa<|Y0<|Ac<|Y1<|Wm ?_;refine Wq (A0G (a:=1) (n:=n) (ao rfl) (ao rfl) (by omega) hsh) ?_;refine Wm<|Y0<|AWp.block ?_
 refine Ia 5 5 1 rfl (by decide) (by decide) rfl rfl ?_
 rw [e1]
 generalize hN:2 ^ n = N at h256 ⊢
 refine AT (fun mz σ=>∃ k,k≤N∧mz = N - k∧σ = ⟨[(0,.d (BW l)),(5,.own 0),(9,.d (ex (.int .i64 (N:Nat)))),(10,.d (ex (.int .i64 (k:Nat))))],[.row 5 1 ((Ei l k).map fun s=>[ex (.int .u8 (s:Nat))])]⟩) ?le ⟨0,by omega,rfl,rfl⟩ ?round
 case le=>exact Ao (by exact Yd<|FrLe.cons rfl (AVle.own rfl)<|Yd<|Yd<|FrLe.nil) (by exact Yr<|HpLe.nil)
 case round =>
  rintro mz _ ⟨k,hk,rfl,rfl⟩
  by_cases hlt:k<N
  ·have hk : k < 256 := by omega
   have hle:=NA l k
   apply Y1;refine Wq AA ?_;refine Y0<|Ac ?_;refine Ct ?_;refine Ys<|Ac<|AWp.block<|Y1<|Wm ?_;refine Al ?_;refine IL (ao rfl) (ao rfl) rfl (Ae rfl) (by first | exact DK rfl | exact One.sl | exact FH) rfl rfl ?_;refine Y0<|Y1 ?_;refine Wq (FA [1] rfl) ?_;refine Wa<|Y0<|Y1<|Wm<|Wm ?_
   refine Bt [1] [] (Vc l k hk hl) (by first | exact Or.inl rfl | exact Or.inr ⟨by decide,rfl,by repeat (first | exact AvoidR.nil | refine AK rfl ?_ | refine AvoidR.dead ?_ | refine AO ?_ | refine AvoidR.obj ?_ | refine AI ?_ | refine AJ rfl ?_ | refine AvoidR.pin rfl ?_)⟩) rfl rfl (by first | exact .inl ⟨rfl,rfl⟩ | exact .inr ⟨rfl,rfl⟩) (by repeat (first | exact ArgsC.nil | refine ArgsC.d rfl (D.le.refl _) ?_ | refine AZ rfl rfl ?_)) (by decide) (by repeat (first | exact SelR.nil | refine SelR.var rfl ?_ | refine SelR.obj rfl ?_ | refine Bh rfl ?_ | refine AU rfl rfl rfl ?_)) (by repeat (first | exact trivial | refine ⟨⟨_,_,rfl⟩,?_⟩)) rfl ?_
   rintro _ _ ⟨rfl,rfl⟩
   refine ⟨_,_,_,(by first | exact AVRen.d | exact AVRen.own rfl | exact AVRen.ptr rfl | exact AVRen.fn rfl),(by repeat (first | exact SetR.nil | (apply SetR.cons;(first | exact OwRen.dead | exact Aj | exact OwRen.obj | exact Aq | exact Ak rfl);exact rfl))),(by repeat (first | exact AppR.nil | (apply AppR.cons;(first | exact OwRen.dead | exact Aj | exact OwRen.obj | exact Aq | exact Ak rfl);exact rfl))),?_⟩
   try simp only [Bc,Bw,Sw]
   cases hb:l.any (LL · k) with
   | true =>
    refine Wq Ci ?_;apply Y0;refine Cf ?_;apply BJ;apply As;refine Yn<|AWp.region ?_;refine Wq Bd ?_;refine Wm ?_;apply AWl.nil
    refine ALoop.next (N - (k+1)) (by omega) ⟨k+1,by omega,rfl,rfl⟩ ?_
    exact Ao (by exact Yd<|FrLe.cons rfl (AVle.own rfl)<|Yd<|Yd<|FrLe.nil) (by (refine HpLe.cons (EG (by rw [Mv,if_neg (by rw [NB,hb];decide)])) ?_);exact HpLe.nil)
   | false =>
    refine Wq Ci ?_;apply Y0;refine Ct ?_;refine AWp.region<|Wm ?_;refine Wq Bb ?_;refine Wq (Qm (a:=k) (ao rfl) (Ae rfl) (Ae rfl) hk) ?_;(refine DB rfl rfl ?_;(refine DS (Ae rfl) (Ae rfl) rfl rfl rfl rfl rfl ?_;(repeat ((first | refine ⟨_,BL (ao rfl),?_⟩ | refine ⟨_,Po rfl,?_⟩);refine ⟨_,rfl,?_⟩));refine ⟨_,rfl,?_⟩));(refine Oe (ao rfl) rfl rfl (Ae rfl) (Ae rfl) rfl rfl (by simp [CF];omega) (by simp [CF];omega) rfl (by first | ((repeat (first | exact PlainHp.nil | refine PlainHp.var ?_ | refine DA ?_ | refine PlainHp.dead ?_ | refine PlainHp.obj ?_ | refine PlainHp.pin rfl ?_ | refine Db rfl ?_));done) | fail) rfl ?_);refine Wa ?_;apply AWl.nil;apply As;refine Yn<|AWp.region ?_;refine Wq Bd ?_;refine Wm ?_;apply AWl.nil
    refine ALoop.next (N - (k+1)) (by omega) ⟨k+1,by omega,rfl,rfl⟩ ?_
    exact Ao (by exact Yd<|FrLe.cons rfl (AVle.own rfl)<|Yd<|Yd<|FrLe.nil) (by (refine HpLe.cons (EG (by rw [Mv,if_pos (by rw [NB,hb];rfl)];exact RZ _ k)) ?_);exact HpLe.nil)
  ·obtain rfl : k = N := by omega
   apply Y1;refine Wq At ?_;refine Y0<|Ac ?_;refine Cf ?_;apply AP;apply AF;apply AG;apply AH;refine Yn<|Y1<|Wm<|Wa<|Y0 ?_;apply Aw
   exact Yf
def Eh (s : Nat):Nat:=s % 2+s / 2 % 2+s / 4 % 2+s / 8 % 2+s / 16 % 2+s / 32 % 2+s / 64 % 2+s / 128 % 2
theorem SB (s : Nat):Eh s≤8:=by
 unfold Eh
 omega
section
variable {P : Program} {hp:List Ow} {arg:Operand→AV} {dd:Option Tmp} {ty:TypeId} {ps:String} {af:Array Edge} {gd:Option (Nat × Bool)}
theorem YM {s : ByteArray} {i:Nat} {b:UInt8} (h:s.data[i]? = some b):s[i]? = some b:=by
 obtain ⟨hi,h⟩:=Array.getElem?_eq_some_iff.1 h
 have hi':i<s.size:=hi
 rw [getElem?_pos s i hi']
 exact congrArg some h
theorem Xl {t : TypeId} {x y:Operand} {s:ByteArray} {κ:IntKind} {i n b:Nat} {z:Value} {u:UInt8} (hx:arg x = .d (ex (.string s))) (hy:arg y = .d (ex (.int κ (i:Nat)))) (ht:Tab P t .string n b z) (hb:s.data[i]? = some u):Quiet P hp ⟨dd,.index t x y,ty,ps,af,gd⟩ arg (.d (ex (.int .u8 u.toNat))):=by
 refine ⟨fun base w ρ ev hok hbs hhp h=>?_⟩
 have h1:=h x (by simp [Op.operands])
 have h2:=h y (by simp [Op.operands])
 rw [hx] at h1;rw [hy] at h2
 have e1:ev x = .string s:=h1
 have e2:ev y = .int κ (i:Nat):=h2
 refine Bl (v:=.int .u8 u.toNat) ?_ ⟨GS.Le.refl w,rfl⟩
 have hi:(0:Int)≤(i:Int):=by omega
 simp [execOp,e1,e2,Instr.index,asIntOf,run_underlying ht.und,YM hb]
end
theorem Yg {A : Array UInt8} (h:((List.range 256).all fun i=>A[i]? == some (UInt8.ofNat (Eh i))) = true) {i:Nat} (hi:i<256):A[i]? = some (UInt8.ofNat (Eh i)):=by
 have:=List.all_eq_true.1 h i (List.mem_range.2 hi)
 exact eq_of_beq this
theorem VJ (s : Nat) (hs:s<256):Abs Tryz.prog 104 [ex (.int .u8 (s:Nat))] (ex (.int .i64 (Eh s:Nat))):=by
 have hp:=SB s
 have e:(((UInt8.ofNat (Eh s)).toNat:Nat):Int) = ((Eh s:Nat):Int):=by
  have:(UInt8.ofNat (Eh s)).toNat = Eh s:=by
   rw [UInt8.toNat_ofNat']
   exact Nat.mod_eq_of_lt (by omega)
  rw [this]
 refine Ab Tryz.func104 fun s0=>?_
 rw [Tryz.ntmps104]
 refine Y1<|Wa<|Y0<|Y1<|Wm ?_;refine Wq (Xl (i:=s) (u:=UInt8.ofNat (Eh s)) (ao rfl) (ao rfl) (Ae rfl) (Yg (by kernel_rfl) hs)) ?_;refine Wq (Ho (a:=((Eh s:Nat):Int)) ((ao rfl).trans (by rw [e])) (Ae rfl) (Ae rfl) (by omega) (by omega)) ?_;refine Wa<|Y0 ?_;apply Aw
 exact Yf
def HT (L : List Nat):Int:=L.foldl (fun d s=>max d ((Eh s:Nat):Int)) (-1)
theorem IP {L : List Nat} {k:Nat} (h:k<L.length):L.take (k+1) = L.take k ++ [L.getD k default]:=by
 rw [List.take_add_one,List.getElem?_eq_getElem h,List.getD_eq_getElem?_getD,List.getElem?_eq_getElem h]
 rfl
theorem Uq (L : List Nat) (s:Nat):HT (L ++ [s]) = max (HT L) ((Eh s:Nat):Int):=by
 unfold HT
 rw [List.foldl_append]
 rfl
theorem NH (L : List Nat):-1≤HT L∧HT L≤8:=by
 have:∀ (L:List Nat) (d:Int),-1≤d→d≤8→-1≤L.foldl (fun d s=>max d ((Eh s:Nat):Int)) d∧L.foldl (fun d s=>max d ((Eh s:Nat):Int)) d≤8:=by
  intro L
  induction L with
  | nil=>exact fun d h1 h2=>⟨h1,h2⟩
  | cons s L ih =>
   intro d h1 h2
   have:=SB s
   exact ih (max d ((Eh s:Nat):Int)) (by omega) (by omega)
 exact this L (-1) (by omega) (by omega)
theorem SX {l : Af} {n:Nat} {s:Nat} (h:s∈Ei l n):s<n:=List.mem_range.1 (List.mem_filter.1 h).1
theorem Up (l : Af) (n:Nat) (hn:n≤8) (hl:l.length≤1000):Abs Tryz.prog 55 [BW l,ex (.int .i64 (n:Nat))] (ex (.int .i64 (HT (Ei l (2 ^ n))))):=by
 have h256:2 ^ n≤256:=by
  have:=Nat.pow_le_pow_right (n:=2) (by decide) hn
  exact this
 have ci:=Mu l n hn hl
 have hL:∀ k,k<(Ei l (2 ^ n)).length→(Ei l (2 ^ n)).getD k default<256:=fun k hk=>by
  have:(Ei l (2 ^ n)).getD k default∈Ei l (2 ^ n):=by
   rw [List.getD_eq_getElem?_getD,List.getElem?_eq_getElem hk]
   exact List.getElem_mem hk
  have:=SX this
  omega
 have hlen:=NA l (2 ^ n)
 generalize Ei l (2 ^ n) = L at ci hL hlen ⊢
 refine Ab Tryz.func55 fun s0=>?_
 rw [Tryz.ntmps55]
 refine Y1<|Wa<|Y0<|Y1<|Wa<|Y0<|Ac<|Y1<|Wm<|Wm ?_;refine Wq (Ai (ci)) ?_;refine Wq En ?_;refine Wm<|Y0<|AWp.block ?_
 refine AT (fun mz σ=>∃ k,k≤L.length∧mz = L.length - k∧σ = ⟨[(5,.d (ex (.int .i64 (HT (L.take k))))),(10,.d (TE L)),(11,.d (ex (.int .i64 (L.length:Nat)))),(12,.d (ex (.int .i64 (k:Nat))))],[]⟩) ?le ⟨0,by omega,rfl,rfl⟩ ?round
 case le=>exact Ao (by exact Yd<|Yd<|Yd<|Yd<|FrLe.nil) (by exact HpLe.nil)
 case round =>
  rintro mz _ ⟨k,hk,rfl,rfl⟩
  by_cases hlt:k<L.length
  ·have hk:=hL k hlt
   apply Y1;refine Wq AA ?_;refine Y0<|Ac ?_;refine Ct ?_;refine Ys<|Ac<|AWp.block<|Y1 ?_;refine Wq BU ?_;refine Wq DV ?_;refine Wa<|Y0<|AWp.region<|Wm<|Wm ?_;refine Wq (Ai (VJ (L.getD k default) hk)) ?_;refine Wq Lo ?_;refine Wa ?_;apply AWl.nil;apply As;refine Yn<|AWp.region ?_;refine Wq Bd ?_;refine Wm ?_;apply AWl.nil
   refine ALoop.next (L.length - (k+1)) (by omega) ⟨k+1,by omega,rfl,rfl⟩ ?_
   exact Ao (by exact FrLe.cons rfl (AVle.int (by rw [IP hlt,Uq]))<|Yd<|Yd<|Yd<|FrLe.nil) (by exact HpLe.nil)
  ·obtain rfl : k = L.length := by omega
   apply Y1;refine Wq At ?_;refine Y0<|Ac ?_;refine Cf ?_;apply AP;apply AF;apply AG;apply AH;refine Yn<|Y1<|Wm<|Wa<|Y0 ?_;apply Aw
   rw [List.take_length]
   exact Yf
theorem WK {s j:Nat} (hs:s<256) (hj:j<8):(255 - s).testBit j = !s.testBit j:=by
 have h:=Nat.testBit_two_pow_sub_succ (n:=8) (x:=s) (by omega) j
 rw [show 2 ^ 8 - (s+1) = 255 - s by omega] at h
 rw [h]
 simp [hj]
theorem Pq {a : Nat→Int} {s:Nat} (hs:s<256):LL a s = true↔∀ j,j<8→0<a j→s.testBit j = true:=by
 unfold LL
 rw [decide_eq_true_iff]
 constructor
 ·intro h j hj ha
  have h0:BY a 8 &&& (255 - s) = 0:=by omega
  have h1:(BY a 8 &&& (255 - s)).testBit j = false:=by rw [h0];exact Nat.zero_testBit j
  rw [Nat.testBit_and,FZ a 8 j hj,decide_eq_true ha,WK hs hj,Bool.true_and] at h1
  simpa using h1
 ·intro h
  have h0:BY a 8 &&& (255 - s) = 0:=by
   refine Nat.eq_of_testBit_eq fun j=>?_
   rw [Nat.zero_testBit,Nat.testBit_and]
   by_cases hj:j<8
   ·rw [FZ a 8 j hj,WK hs hj]
    by_cases ha:0<a j
    ·rw [h j hj ha];simp
    ·simp [ha]
   ·have : (BY a 8).testBit j = false := Nat.testBit_lt_two_pow (Nat.lt_of_lt_of_le (DX a 8) (Nat.pow_le_pow_right (by decide) (by omega)))
    rw [this]
    rfl
  rw [h0]
  rfl
theorem Wk {l : Af} {s:Nat} (hs:s<256):NB l s = true↔Lw 8 0 l s.testBit:=by
 unfold NB Lw
 rw [Bool.not_eq_true',← Bool.not_eq_true,List.any_eq_true]
 constructor
 ·intro h a ha
  have h1:¬ LL a s = true:=fun hi=>h ⟨a,ha,hi⟩
  rw [Pq hs] at h1
  obtain ⟨j,h1⟩:=Classical.not_forall.1 h1
  obtain ⟨hj,h1⟩:=Classical.not_imp.1 h1
  obtain ⟨h2,h3⟩:=Classical.not_imp.1 h1
  exact ⟨j,Nat.zero_le j,by omega,by simpa using h3,h2⟩
 ·intro h ⟨a,ha,hi⟩
  obtain ⟨j,_,hj,h2,h3⟩:=h a ha
  rw [(Pq hs).1 hi j (by omega) h3] at h2
  cases h2
theorem VD {n : Nat} (hn:n≤8):2 ^ n≤256:=Nat.pow_le_pow_right (n:=2) (by decide) hn
theorem Wj {l : Af} {n s:Nat} (hn:n≤8) (hs:s<2 ^ n) (hl:∀ a∈l,SupN n a):NB l s = true↔Lw n 0 l s.testBit:=by
 have h256:=VD hn
 rw [Wk (by omega)]
 constructor
 ·intro h a ha
  obtain ⟨j,h1,h2,h3,h4⟩:=h a ha
  refine ⟨j,h1,?_,h3,h4⟩
  rcases Nat.lt_or_ge j n with h5 | h5
  ·omega
  ·have := (hl a ha j (by omega)).2 h5
   omega
 ·intro h a ha
  obtain ⟨j,h1,h2,h3,h4⟩:=h a ha
  exact ⟨j,h1,by omega,h3,h4⟩
theorem Sg {S : Nat→Bool}:∀ {k i:Nat},(∀ j,i≤j→j<i+k→S j = false)→Jf k i S = 0
 | 0,_,_=>rfl
 | k+1,i,h=>by
  rw [Jf,h i (Nat.le_refl i) (by omega),Sg fun j h1 h2=>h j (by omega) (by omega)]
  rfl
theorem Si {S : Nat→Bool}:∀ {k i r:Nat},(∀ j,i+k≤j→j<i+k+r→S j = false)→Jf (k+r) i S = Jf k i S
 | 0,i,r,h=>by rw [Nat.zero_add];exact Sg fun j h1 h2=>h j (by omega) (by omega)
 | k+1,i,r,h=>by
  rw [show k+1+r = (k+r)+1 by omega,Jf,Jf,Si fun j h1 h2=>h j (by omega) (by omega)]
theorem YO (s j:Nat):(if s.testBit j = true then 1 else 0) = s / 2 ^ j % 2:=by
 rw [Nat.testBit_eq_decide_div_mod_eq]
 by_cases h:s / 2 ^ j % 2 = 1
 ·simp [h]
 ·simp only [h,decide_false,Bool.false_eq_true,if_false]
  omega
theorem Yc (s : Nat):Eh s = Jf 8 0 s.testBit:=by
 simp only [Jf,YO,Eh,Nat.zero_add,Nat.pow_zero,Nat.div_one,Nat.add_zero,Nat.reduceAdd,Nat.reducePow]
 omega
theorem VE {s n:Nat} (hn:n≤8) (hs:s<2 ^ n):Eh s = Jf n 0 s.testBit:=by
 rw [Yc]
 have h:=Si (k:=n) (i:=0) (r:=8 - n) (S:=s.testBit) fun j h1 _=>Nat.testBit_lt_two_pow (Nat.lt_of_lt_of_le hs (Nat.pow_le_pow_right (by decide) (by omega)))
 rwa [show n+(8 - n) = 8 by omega] at h
theorem Tg (S : Nat→Bool):∀ n,∃ s,s<2 ^ n∧∀ j,j<n→s.testBit j = S j
 | 0=>⟨0,by decide,fun j hj=>absurd hj (Nat.not_lt_zero j)⟩
 | n+1=>by
  obtain ⟨s,h1,h2⟩:=Tg S n
  have hp:2 ^ (n+1) = 2 ^ n+2 ^ n:=by rw [Nat.pow_succ];omega
  refine ⟨2 ^ n*(if S n = true then 1 else 0)+s,?_,fun j hj=>?_⟩
  ·split <;> omega
  ·rw [Nat.testBit_two_pow_mul_add _ h1]
   split
   ·exact h2 j (by assumption)
   ·obtain rfl : j = n := by omega
    rw [Nat.sub_self]
    cases S j <;> rfl
theorem YD {L : List Nat} {s:Nat} (h:s∈L):((Eh s:Nat):Int)≤HT L:=by
 have key:∀ (L:List Nat) (d:Int),d≤L.foldl (fun d s=>max d ((Eh s:Nat):Int)) d∧∀ s∈L,((Eh s:Nat):Int)≤L.foldl (fun d s=>max d ((Eh s:Nat):Int)) d:=by
  intro L
  induction L with
  | nil=>exact fun d=>⟨Int.le_refl d,fun s hs=>by cases hs⟩
  | cons b L ih =>
   intro d
   obtain ⟨h1,h2⟩:=ih (max d ((Eh b:Nat):Int))
   rw [List.foldl_cons]
   refine ⟨by omega,fun s hs=>?_⟩
   rcases List.mem_cons.1 hs with rfl | hs
   ·omega
   ·exact h2 s hs
 exact (key L (-1)).2 s h
theorem YE (L : List Nat):HT L = -1∨∃ s∈L,HT L = ((Eh s:Nat):Int):=by
 have key:∀ (L:List Nat) (d:Int),L.foldl (fun d s=>max d ((Eh s:Nat):Int)) d = d∨∃ s∈L,L.foldl (fun d s=>max d ((Eh s:Nat):Int)) d = ((Eh s:Nat):Int):=by
  intro L
  induction L with
  | nil=>exact fun d=>.inl rfl
  | cons b L ih =>
   intro d
   rw [List.foldl_cons]
   rcases ih (max d ((Eh b:Nat):Int)) with h | ⟨s,hs,h⟩
   ·rw [h]
    rcases Int.le_total d ((Eh b:Nat):Int) with hle | hle
    ·exact .inr ⟨b,List.mem_cons_self,by omega⟩
    ·exact .inl (by omega)
   ·exact .inr ⟨s,List.mem_cons_of_mem _ hs,h⟩
 exact key L (-1)
theorem Pr {l : Af} {m s:Nat}:s∈Ei l m↔s<m∧NB l s = true:=by
 unfold Ei
 rw [List.mem_filter,List.mem_range]
theorem NG {l : Af} {n:Nat} (hn:n≤8) (hl:∀ a∈l,SupN n a):IsDim n 0 l (HT (Ei l (2 ^ n))):=by
 refine ⟨fun S hS=>?_,?_⟩
 ·obtain ⟨s,h1,h2⟩:=Tg S n
  have hI:Lw n 0 l s.testBit:=fun a ha=>by
   obtain ⟨j,g1,g2,g3,g4⟩:=hS a ha
   exact ⟨j,g1,g2,(h2 j (by omega)).trans g3,g4⟩
  rw [Hc (S:=S) (S':=s.testBit) fun j _ hj=>(h2 j (by omega)).symm,← VE hn h1]
  exact YD (Pr.2 ⟨h1,(Wj hn h1 hl).2 hI⟩)
 ·rcases YE (Ei l (2 ^ n)) with h | ⟨s,hs,h⟩
  ·exact .inl h
  ·obtain ⟨h1,h2⟩:=Pr.1 hs
   exact .inr ⟨s.testBit,(Wj hn h1 hl).1 h2,by rw [h,VE hn h1]⟩
def FX (a : Nat→Int):Nat→Int:=fun j=>if j<8 then a j else 0
theorem Np {l : Af} {n:Nat} {f:Nat→Int} (hn:n≤8) (hl:∀ a∈l,SupN n a) (hf:Num l f):∃ c,Ser (Cr n f) (HT (Ei l (2 ^ n))) c:=by
 have h8:∀ a∈l.map FX,∀ j,0≤a j:=fun a ha j=>by
  obtain ⟨b,hb,rfl⟩:=List.mem_map.1 ha
  show 0≤if j<8 then b j else 0
  split
  ·rename_i h
   exact (hl b hb j h).1
  ·omega
 have hS:∀ S,Lw n 0 (l.map FX) S↔Lw n 0 l S:=fun S=>⟨fun h a ha=>by
  obtain ⟨j,g1,g2,g3,g4⟩:=h _ (List.mem_map_of_mem ha)
  refine ⟨j,g1,g2,g3,?_⟩
  have g5:0<if j<8 then a j else 0:=g4
  rwa [if_pos (by omega)] at g5,fun h a ha=>by
  obtain ⟨b,hb,rfl⟩:=List.mem_map.1 ha
  obtain ⟨j,g1,g2,g3,g4⟩:=h b hb
  refine ⟨j,g1,g2,g3,?_⟩
  show 0<if j<8 then b j else 0
  rwa [if_pos (by omega)]⟩
 have hF:FR n 0 (l.map FX) = FR n 0 l:=by
  funext d
  refine EA fun x _=>?_
  unfold QM
  rw [List.any_map]
  congr 2
  funext a
  refine bool_eq (Fz.trans (Iff.trans ⟨fun h j h1 h2=>?_,fun h j h1 h2=>?_⟩ Fz.symm))
  ·have:=h j h1 h2
   have h3:(if j<8 then a j else 0)≤x j:=this
   rwa [if_pos (by omega)] at h3
  ·show (if j<8 then a j else 0)≤x j
   rw [if_pos (by omega)]
   exact h j h1 h2
 obtain ⟨D,c,h1,h2⟩:=Sr n 0 (l.map FX) h8
 have h3:IsDim n 0 l D:=⟨fun S h=>h2.1 S ((hS S).2 h),h2.2.imp id fun ⟨S,g1,g2⟩=>⟨S,(hS S).1 g1,g2⟩⟩
 have h4:=h3.uniq (NG hn hl) h1.ge.1 (NH _).1
 rw [hF,← A1A hn hl] at h1
 have h5:Cr n f = fun d=>hN n d l:=funext fun d=>hf n hn hl d
 rw [h5,← h4]
 exact ⟨c,h1⟩
def A07 (s t:Nat):Bool:=decide (((s &&& (255 - t):Nat):Int) = 0)
def A0i (l : Af) (N:Nat):List Nat:=(Ei l N).filter fun s => !(Ei l N).any fun t=>(s != t) && A07 s t
def StdX (l : Af) (n:Nat) (x:Nat→Int):Prop:=(∀ j,j<8→0≤x j∧(n≤j→x j = 0))∧inB l x = false
theorem Pt {l : Af} {x y:Nat→Int} (h:Dv x y) (hx:inB l x = true):inB l y = true:=by
 obtain ⟨a,ha,hd⟩:=Da.1 hx
 exact Da.2 ⟨a,ha,fun j hj=>Int.le_trans (hd j hj) (h j hj)⟩
theorem StdX.congr {l : Af} {n:Nat} {x y:Nat→Int} (h:StdX l n x) (e:Eqv x y):StdX l n y:=by
 refine ⟨fun j hj=>by rw [← e j hj];exact h.1 j hj,?_⟩
 rw [Bool.eq_false_iff]
 intro hy
 have:=Pt (show Dv y x from e.symm.dv) hy
 rw [h.2] at this
 cases this
abbrev QI (m : Nat→Int) (i:Nat):Nat→Int:=Ij m i (m i+1)
theorem JX (m : Nat→Int) (i j:Nat):QI m i j = if j = i then m i+1 else m j:=rfl
theorem ZU (m : Nat→Int) (i:Nat):Dv m (QI m i):=fun j _=>by
 rw [JX]
 split
 ·rename_i h;subst h;omega
 ·omega
def Clo (l : Af) (n:Nat) (K:Af) (x:Nat→Int):Prop:=∀ y,StdX l n y→Dv x y→MemE y K
theorem MemE.app {K tl:Af} {y:Nat→Int} (h:MemE y K):MemE y (K ++ tl):=Fc.2 (.inl h)
theorem Clo.app {l : Af} {n:Nat} {K tl:Af} {x:Nat→Int} (h:Clo l n K x):Clo l n (K ++ tl) x:=fun y hy hd=>(h y hy hd).app
def PreD (l : Af) (n:Nat) (K:Af) (m:Nat→Int):Prop:=∀ x∈K,(Dv x m∧¬ Eqv x m)∨Clo l n K x
structure Dfs (l : Af) (n:Nat) (K:Af) (m:Nat→Int) (K':Af):Prop where
 ext:∃ tl,K' = K ++ tl
 new:∀ x∈K',x∈K∨(StdX l n x∧Dv m x)
 all:Clo l n K' m
 pw:K'.Pairwise fun a b=>¬ Eqv a b
structure DfsI (l : Af) (n:Nat) (K:Af) (m:Nat→Int) (i:Nat) (K':Af):Prop where
 ext:∃ tl,K' = K ++ m :: tl
 new:∀ x∈K',x∈K∨(StdX l n x∧Dv m x)
 clo:∀ x∈K',x∈K∨Eqv x m∨Clo l n K' x
 got:∀ t,t<i→Clo l n K' (QI m t)
 pw:K'.Pairwise fun a b=>¬ Eqv a b
theorem Xz {l : Af} {n:Nat} {K:Af} {m:Nat→Int} (h:inB l m = true) (hp:K.Pairwise fun a b=>¬ Eqv a b):Dfs l n K m K :=
 ⟨⟨[],(List.append_nil K).symm⟩,fun x hx=>.inl hx,fun y hy hd=>(by
  have:=Pt hd h
  rw [hy.2] at this
  exact Bool.noConfusion this),hp⟩
theorem Xy {l : Af} {n:Nat} {K:Af} {m:Nat→Int} (h:MemE m K) (hpre:PreD l n K m) (hp:K.Pairwise fun a b=>¬ Eqv a b):Dfs l n K m K:=by
 refine ⟨⟨[],(List.append_nil K).symm⟩,fun x hx=>.inl hx,fun y hy hd=>?_,hp⟩
 obtain ⟨x,hx,e⟩:=h
 rcases hpre x hx with ⟨_,hne⟩ | hc
 ·exact absurd e hne
 ·exact hc y hy (e.dv.trans hd)
theorem DfsI.start {l : Af} {n:Nat} {K:Af} {m:Nat→Int} (hm:StdX l n m) (hn:∀ x∈K,¬ Eqv m x) (hp:K.Pairwise fun a b=>¬ Eqv a b):DfsI l n K m 0 (K ++ [m]):=by
 refine ⟨⟨[],rfl⟩,fun x hx=>?_,fun x hx=>?_,fun t ht=>absurd ht (Nat.not_lt_zero t),?_⟩
 ·rcases List.mem_append.1 hx with h | h
  ·exact .inl h
  ·rw [List.mem_singleton.1 h]
   exact .inr ⟨hm,Dv.refl m⟩
 ·rcases List.mem_append.1 hx with h | h
  ·exact .inl h
  ·rw [List.mem_singleton.1 h]
   exact .inr (.inl (Eqv.refl m))
 ·rw [List.pairwise_append]
  refine ⟨hp,by simp,fun a ha b hb=>?_⟩
  rw [List.mem_singleton.1 hb]
  exact fun e=>hn a ha e.symm
theorem DfsI.pre {l : Af} {n:Nat} {K K':Af} {m:Nat→Int} {i:Nat} (h:DfsI l n K m i K') (hp:PreD l n K m) (hi:i<8):PreD l n K' (QI m i):=fun x hx=>by
 have up:Dv x m→Dv x (QI m i)∧¬ Eqv x (QI m i):=fun hd=>⟨hd.trans (ZU m i),fun e=>by
  have h1:=hd i hi
  have h2:=e i hi
  rw [JX,if_pos rfl] at h2
  omega⟩
 obtain ⟨tl,he⟩:=h.ext
 rcases h.clo x hx with h1 | h1 | h1
 ·rcases hp x h1 with h2 | h2
  ·exact .inl (up h2.1)
  ·refine .inr ?_
   rw [he]
   exact h2.app
 ·exact .inl (up h1.dv)
 ·exact .inr h1
theorem DfsI.step {l : Af} {n:Nat} {K K1 K2:Af} {m:Nat→Int} {i:Nat} (h:DfsI l n K m i K1) (h2:Dfs l n K1 (QI m i) K2):DfsI l n K m (i+1) K2:=by
 obtain ⟨tl,e1⟩:=h.ext
 obtain ⟨tl2,e2⟩:=h2.ext
 refine ⟨⟨tl ++ tl2,by rw [e2,e1,List.append_assoc,List.cons_append]⟩,fun x hx=>?_,fun x hx=>?_,fun t ht=>?_,h2.pw⟩
 ·rcases h2.new x hx with h3 | ⟨h3,h4⟩
  ·exact h.new x h3
  ·exact .inr ⟨h3,(ZU m i).trans h4⟩
 ·rcases h2.new x hx with h3 | ⟨h3,h4⟩
  ·rcases h.clo x h3 with h5 | h5 | h5
   ·exact .inl h5
   ·exact .inr (.inl h5)
   ·refine .inr (.inr ?_)
    rw [e2]
    exact h5.app
  ·exact .inr (.inr fun y hy hd=>h2.all y hy (h4.trans hd))
 ·by_cases e:t = i
  ·subst e
   exact h2.all
  ·rw [e2]
   exact (h.got t (by omega)).app
theorem DfsI.done {l : Af} {n:Nat} {K K':Af} {m:Nat→Int} (h:DfsI l n K m n K') (hn:n≤8) (hm:∀ j,j<8→0≤m j):Dfs l n K m K':=by
 obtain ⟨tl,e⟩:=h.ext
 refine ⟨⟨m :: tl,e⟩,h.new,fun y hy hd=>?_,h.pw⟩
 by_cases he:Eqv m y
 ·exact ⟨m,by rw [e];simp,he⟩
 ·obtain ⟨j,he⟩:=Classical.not_forall.1 he
  obtain ⟨hj,hne⟩:=Classical.not_imp.1 he
  have h1:=hd j hj
  have h2:=hm j hj
  have hjn:j<n:=by
   rcases Nat.lt_or_ge j n with h3 | h3
   ·exact h3
   ·have:=(hy.1 j hj).2 h3
    omega
  refine h.got j hjn y hy fun t ht=>?_
  rw [JX]
  split
  ·rename_i h3
   subst h3
   omega
  ·exact hd t ht
theorem A0t (m : Nat→Int) (i:Nat) (hm:∀ j,j<8→0≤m j) (hi:i<8):CK 8 0 (QI m i) = CK 8 0 m+1:=by
 have key:∀ (k a:Nat),a+k≤8→CK k a (QI m i) = CK k a m+if a≤i∧i<a+k then 1 else 0:=by
  intro k
  induction k with
  | zero=>intro a _;rw [if_neg (by omega)];rfl
  | succ k ih =>
   intro a ha
   rw [CK,CK,ih (a+1) (by omega),JX]
   have h0:=hm a (by omega)
   by_cases e:a = i
   ·subst e
    rw [if_pos rfl,if_neg (by omega),if_pos (by omega)]
    omega
   ·rw [if_neg e]
    by_cases h1:a≤i∧i<a+(k+1)
    ·rw [if_pos h1, if_pos (by omega)]
     omega
    ·rw [if_neg h1, if_neg (by omega)]
     rfl
 rw [key 8 0 (by omega),if_pos (by omega)]
theorem Dfs.top {l : Af} {n:Nat} {K:Af} (h:Dfs l n [] (fun _=>0) K):(∀ x,MemE x K↔StdX l n x)∧K.Pairwise fun a b=>¬ Eqv a b:=by
 refine ⟨fun x=>⟨fun ⟨a,ha,e⟩=>?_,fun hx=>h.all x hx fun j hj=>(hx.1 j hj).1⟩,h.pw⟩
 rcases h.new a ha with h1 | ⟨h1,_⟩
 ·cases h1
 ·exact h1.congr e
theorem PreD.top (l : Af) (n:Nat) (m:Nat→Int):PreD l n [] m:=fun x hx=>by cases hx
theorem QP {S K:Af} (hp:S.Perm K) (hs:S.Pairwise fun a b=>lx a b≤0) (hK:K.Pairwise fun a b=>¬ Eqv a b):(S.Pairwise fun a b=>lx a b<0)∧∀ x,MemE x S↔MemE x K:=by
 have hS:S.Pairwise fun a b=>¬ Eqv a b:=(hp.pairwise_iff fun {a b} h e=>h e.symm).2 hK
 refine ⟨?_,fun x=>⟨fun ⟨a,ha,e⟩=>⟨a,hp.mem_iff.1 ha,e⟩,fun ⟨a,ha,e⟩=>⟨a,hp.mem_iff.2 ha,e⟩⟩⟩
 refine (hs.and hS).imp fun {a b} h=>?_
 have hne:lx a b ≠ 0:=fun h0=>h.2 (Gg.1 h0)
 omega
theorem JP {m m':Nat→Int}:∀ {k i:Nat},(∀ j,i≤j→j<i+k→m j = m' j)→CK k i m = CK k i m'
 | 0,_,_=>rfl
 | k+1,i,h=>by rw [CK,CK,h i (Nat.le_refl i) (by omega),JP fun j h1 h2=>h j (by omega) (by omega)]
theorem Gd : ∀ {k i d:Nat} {m:Nat→Int},m∈rM k i d↔InV k i m∧CK k i m = d
 | 0,i,d,m=>by
  unfold rM
  constructor
  ·intro h
   split at h
   ·rename_i hd
    rw [List.mem_singleton.1 h]
    exact ⟨⟨fun _=>Int.le_refl 0,fun _ _=>rfl⟩,hd.symm⟩
   ·cases h
  ·intro ⟨h1,h2⟩
   have h3:0 = d:=h2
   rw [if_pos h3.symm,List.mem_singleton]
   funext j
   exact h1.2 j (by omega)
 | k+1,i,d,m=>by
  rw [rM,List.mem_flatMap]
  constructor
  ·intro ⟨e,he,h⟩
   have he:=List.mem_range.1 he
   obtain ⟨m',hm',rfl⟩:=List.mem_map.1 h
   obtain ⟨h1,h2⟩:=Gd.1 hm'
   refine ⟨⟨fun j=>?_,fun j hj=>?_⟩,?_⟩
   ·show 0≤if j = i then _ else _
    split
    ·omega
    ·exact h1.1 j
   ·show (if j = i then _ else _) = _
    rw [if_neg (by omega)]
    exact h1.2 j (by omega)
   ·rw [CK, JP (m' := m') fun j h3 _ => if_neg (by omega), h2]
    show (if i = i then (((d - e:Nat):Nat):Int) else m' i).toNat+e = d
    rw [if_pos rfl]
    omega
  ·intro ⟨h1,h2⟩
   rw [CK] at h2
   refine ⟨CK k (i+1) m,List.mem_range.2 (by omega),List.mem_map.2 ⟨fun j=>if j = i then 0 else m j,Gd.2 ⟨⟨fun j=>?_,fun j hj=>?_⟩,?_⟩,?_⟩⟩
   ·show 0≤if j = i then _ else _
    split
    ·omega
    ·exact h1.1 j
   ·show (if j = i then _ else _) = _
    split
    ·rfl
    ·exact h1.2 j (by omega)
   ·exact JP fun j h3 _=>if_neg (by omega)
   ·funext j
    show (if j = i then (((d - CK k (i+1) m:Nat):Nat):Int) else if j = i then 0 else m j) = m j
    split
    ·rename_i e
     subst e
     have:=h1.1 j
     omega
    ·rfl
theorem OJ : ∀ (k i d:Nat),(rM k i d).Nodup
 | 0,i,d=>by
  unfold rM
  split
  ·simp
  ·exact List.nodup_nil
 | k+1,i,d=>by
  rw [rM]
  unfold List.Nodup
  rw [List.pairwise_flatMap]
  refine ⟨fun e he=>?_,(List.pairwise_lt_range (n:=d+1)).imp_of_mem ?_⟩
  ·have ih:=OJ k (i+1) e
   rw [List.pairwise_map]
   refine List.Pairwise.imp_of_mem ?_ ih
   intro a b ha hb hab h
   refine hab ?_
   obtain ⟨h1,_⟩:=Gd.1 ha
   obtain ⟨h2,_⟩:=Gd.1 hb
   funext j
   by_cases hj:j = i
   ·rw [hj,h1.2 i (by omega),h2.2 i (by omega)]
   ·have:=congrFun h j
    simp only [if_neg hj] at this
    exact this
  ·intro e e' he he' hlt x hx y hy h
   obtain ⟨a,_,rfl⟩:=List.mem_map.1 hx
   obtain ⟨b,_,rfl⟩:=List.mem_map.1 hy
   have he:=List.mem_range.1 he
   have he':=List.mem_range.1 he'
   have:=congrFun h i
   simp only [if_pos] at this
   omega
theorem Nw (l : Af):∀ L:Af,QD (Gy l) L = ((L.filter fun m => !inB l m).length:Int)
 | []=>rfl
 | m :: L=>by
  rw [QD,Nw l L,List.filter_cons]
  unfold Gy
  cases inB l m with
  | true=>simp
  | false=>simp;omega
theorem IB (a : Nat→Int):Eqv (FX a) a:=fun j hj=>if_pos hj
def LG (l : Af) (n B:Nat):Af:=((List.range B).flatMap fun d=>rM n 0 d).filter fun m => !inB l m
theorem On (l : Af) (n:Nat):∀ B,((LG l n B).length:Int) = Bv B fun d=>hN n d l
 | 0=>rfl
 | B+1=>by
  rw [Bv,← On l n B,← Pu,Nw,LG,List.range_succ,List.flatMap_append,List.filter_append,List.length_append]
  simp [LG]
theorem Kh (l : Af) (n B:Nat):(LG l n B).Nodup:=by
 refine List.Pairwise.filter _ ?_
 rw [List.pairwise_flatMap]
 refine ⟨fun d _=>OJ n 0 d,(List.pairwise_lt_range (n:=B)).imp_of_mem ?_⟩
 intro d d' _ _ hlt x hx y hy h
 have h1:=(Gd.1 hx).2
 have h2:=(Gd.1 hy).2
 rw [h] at h1
 omega
theorem GE {l : Af} {n B:Nat} {m:Nat→Int}:m∈LG l n B↔InV n 0 m∧CK n 0 m<B∧inB l m = false:=by
 unfold LG
 rw [List.mem_filter,List.mem_flatMap]
 constructor
 ·intro ⟨⟨d,hd,hm⟩,h⟩
  obtain ⟨h1,h2⟩:=Gd.1 hm
  exact ⟨h1,by rw [h2];exact List.mem_range.1 hd,by simpa using h⟩
 ·intro ⟨h1,h2,h3⟩
  exact ⟨⟨_,List.mem_range.2 h2,Gd.2 ⟨h1,rfl⟩⟩,by simp [h3]⟩
theorem TI {l K:Af} {n B:Nat} (hn:n≤8) (hK:∀ x,MemE x K↔StdX l n x) (hp:K.Pairwise fun a b=>¬ Eqv a b) (hB:∀ x,StdX l n x→CK n 0 x<B):((K.length:Nat):Int) = Bv B fun d=>hN n d l:=by
 rw [← On]
 have hnd:(K.map FX).Nodup:=by
  unfold List.Nodup
  rw [List.pairwise_map]
  refine hp.imp ?_
  intro a b h e
  refine h fun j hj=>?_
  have:=congrFun e j
  unfold FX at this
  rwa [if_pos hj,if_pos hj] at this
 have hperm:(K.map FX).Perm (LG l n B):=(List.perm_ext_iff_of_nodup hnd (Kh l n B)).2 fun m=>by
  rw [GE]
  constructor
  ·intro h
   obtain ⟨a,ha,rfl⟩:=List.mem_map.1 h
   have h1:StdX l n (FX a):=((hK a).1 ⟨a,ha,Eqv.refl a⟩).congr (IB a).symm
   refine ⟨⟨fun j=>?_,fun j hj=>?_⟩,hB _ h1,h1.2⟩
   ·by_cases h8:j<8
    ·exact (h1.1 j h8).1
    ·unfold FX
     rw [if_neg h8]
     omega
   ·by_cases h8:j<8
    ·exact (h1.1 j h8).2 (by omega)
    ·unfold FX
     rw [if_neg h8]
  ·intro ⟨h1,h2,h3⟩
   have h4:StdX l n m:=⟨fun j hj=>⟨h1.1 j,fun h=>h1.2 j (by omega)⟩,h3⟩
   obtain ⟨a,ha,e⟩:=(hK m).2 h4
   refine List.mem_map.2 ⟨a,ha,funext fun j=>?_⟩
   unfold FX
   split
   ·rename_i h8
    exact e j h8
   ·exact (h1.2 j (by omega)).symm
 rw [← hperm.length_eq,List.length_map]
def code (B : Nat):Nat→Nat→(Nat→Int)→Nat
 | 0,_,_=>0
 | k+1,i,x=>(x i).toNat+(B+1)*code B k (i+1) x
theorem Tf {B : Nat} {x:Nat→Int}:∀ {k i:Nat},(∀ j,i≤j→j<i+k→0≤x j∧x j≤B)→code B k i x<(B+1) ^ k
 | 0,_,_=>by rw [Nat.pow_zero];exact Nat.one_pos
 | k+1,i,h=>by
  have h1:=h i (Nat.le_refl i) (by omega)
  have h2:=Tf (B:=B) (x:=x) (k:=k) (i:=i+1) fun j a b=>h j (by omega) (by omega)
  rw [code,Nat.pow_succ]
  have h3:(B+1)*(code B k (i+1) x+1)≤(B+1)*(B+1) ^ k:=Nat.mul_le_mul_left _ h2
  rw [Nat.mul_add,Nat.mul_one] at h3
  rw [Nat.mul_comm ((B+1) ^ k)]
  omega
theorem PM {B : Nat} {x y:Nat→Int}:∀ {k i:Nat},(∀ j,i≤j→j<i+k→0≤x j∧x j≤B)→(∀ j,i≤j→j<i+k→0≤y j∧y j≤B)→code B k i x = code B k i y→∀ j,i≤j→j<i+k→x j = y j
 | 0,_,_,_,_,j,h1,h2=>by omega
 | k+1,i,hx,hy,h,j,h1,h2=>by
  have gx:=hx i (Nat.le_refl i) (by omega)
  have gy:=hy i (Nat.le_refl i) (by omega)
  rw [code,code] at h
  have hm:((x i).toNat+(B+1)*code B k (i+1) x) % (B+1) = ((y i).toNat+(B+1)*code B k (i+1) y) % (B+1):=by rw [h]
  rw [Nat.add_mul_mod_self_left,Nat.add_mul_mod_self_left,Nat.mod_eq_of_lt (by omega),Nat.mod_eq_of_lt (by omega)] at hm
  rw [hm] at h
  have h3:(B+1)*code B k (i+1) x = (B+1)*code B k (i+1) y:=by omega
  have h4:=Nat.eq_of_mul_eq_mul_left (by omega) h3
  by_cases e:j = i
  ·subst e
   omega
  ·exact PM (fun j a b=>hx j (by omega) (by omega)) (fun j a b=>hy j (by omega) (by omega)) h4 j (by omega) (by omega)
theorem KE : ∀ (n:Nat) (I:List Nat),I.Nodup→(∀ i∈I,i<n)→I.length≤n
 | 0,[],_,_=>Nat.le_refl _
 | 0,i :: I,_,h=>absurd (h i (by simp)) (Nat.not_lt_zero _)
 | n+1,I,hn,h=>by
  by_cases hm:n∈I
  ·have h1:=KE n (I.erase n) (hn.erase n) fun i hi=>by
    have h2:=(hn.mem_erase_iff).1 hi
    have h3:=h i h2.2
    have:=h2.1
    omega
   rw [List.length_erase_of_mem hm] at h1
   omega
  ·have:=KE n I hn fun i hi=>by
    have h3:=h i hi
    have:i ≠ n:=fun e=>hm (by rw [← e];exact hi)
    omega
   omega
theorem Sn {l K:Af} {n B:Nat} (hn:n≤8) (hK:∀ x∈K,StdX l n x) (hp:K.Pairwise fun a b=>¬ Eqv a b) (hB:∀ x,StdX l n x→∀ j,j<8→x j≤B):K.length≤(B+1) ^ n:=by
 have hx:∀ x∈K,∀ j,0≤j→j<0+n→0≤x j∧x j≤B:=fun x hx j _ hj=>⟨((hK x hx).1 j (by omega)).1,hB x (hK x hx) j (by omega)⟩
 have hnd:(K.map (code B n 0)).Nodup:=by
  unfold List.Nodup
  rw [List.pairwise_map]
  refine List.Pairwise.imp_of_mem ?_ hp
  intro a b ha hb h e
  refine h fun j hj=>?_
  by_cases hjn:j<n
  ·exact PM (hx a ha) (hx b hb) e j (Nat.zero_le j) (by omega)
  ·rw [((hK a ha).1 j hj).2 (by omega),((hK b hb).1 j hj).2 (by omega)]
 have:=KE ((B+1) ^ n) _ hnd fun i hi=>by
  obtain ⟨x,h1,rfl⟩:=List.mem_map.1 hi
  exact Tf (hx x h1)
 rwa [List.length_map] at this
theorem LV {f g:Nat→Int}:∀ {n:Nat},(∀ t,t<n→f t = g t)→Ib f n = Ib g n
 | 0,_=>rfl
 | n+1,h=>by
  rw [Ib,Ib,h n (by omega),LV fun t ht=>h t (by omega)]
def cS (N : Nat) (f:Nat→Int):Nat→Nat × (Nat→Int)
 | 0=>(N,f)
 | j+1=>(Ib (kS (cS N f j).2 ((cS N f j).1 - 1)) (cS N f j).1,kS (cS N f j).2 ((cS N f j).1 - 1))
theorem A0n {f g:Nat→Int} {m i t:Nat} (h:∀ t,t<m→f t = g t) (hi:i<m) (ht:t≤i):kS f i t = pS g t:=by
 rw [kS,if_pos ht]
 exact BS fun k hk=>h k (by omega)
theorem WF (N : Nat) (f:Nat→Int):∀ j,(cS N f j).1 = (cN N f j).1∧∀ t,t<(cN N f j).1→(cS N f j).2 t = Cr j f t
 | 0=>⟨rfl,fun _ _=>rfl⟩
 | j+1=>by
  obtain ⟨h1,h2⟩:=WF N f j
  have h3:=Rn N f j
  have h4:∀ t,t<(cN N f j).1→kS (cS N f j).2 ((cN N f j).1 - 1) t = pS (Cr j f) t:=fun t ht=>A0n h2 (by omega) (by omega)
  have h5:(cN N f (j+1)).1 = Ib (pS (Cr j f)) (cN N f j).1:=by
   show Ib (pS (cN N f j).2) _ = _
   rw [h3]
  have h6:(cS N f (j+1)).1 = (cN N f (j+1)).1:=by
   rw [h5]
   show Ib (kS (cS N f j).2 ((cS N f j).1 - 1)) (cS N f j).1 = _
   rw [h1]
   exact LV h4
  refine ⟨h6,fun t ht=>?_⟩
  show kS (cS N f j).2 ((cS N f j).1 - 1) t = _
  rw [h1]
  rw [h5] at ht
  exact h4 t (Nat.lt_of_lt_of_le ht (Kc _ _))
theorem WE (N : Nat) (f:Nat→Int) (j:Nat):(cS N f j).1≤N:=by
 rw [(WF N f j).1]
 exact PP N f j
theorem WG {N Dg:Nat} {f:Nat→Int} {B:Int} (h:Bnd f Dg B):∀ j,Bnd (cS N f j).2 Dg (B*((Dg:Int)+1) ^ j)
 | 0=>by rw [Int.pow_zero,Int.mul_one];exact h
 | j+1=>by
  have:=(WG (N:=N) h j).kS ((cS N f j).1 - 1)
  rw [Int.pow_succ,← Int.mul_assoc]
  exact this
theorem VO {f f':Nat→Int} {n:Nat} (h:∀ i,i<n→f i = f' i):nD n f = nD n f':=by
 unfold nD
 rw [List.map_congr_left fun i hi=>by rw [h i (List.mem_range.1 hi)]]
theorem Mj {B : Int} {Dg r j:Nat} (hB0:0≤B) (hB:B*((Dg:Int)+1) ^ r≤9223372036854775807) (hj:j≤r):B*((Dg:Int)+1) ^ j≤9223372036854775807:=by
 refine Int.le_trans (Int.mul_le_mul_of_nonneg_left ?_ hB0) hB
 have:(Dg+1) ^ j≤(Dg+1) ^ r:=Nat.pow_le_pow_right (by omega) hj
 exact_mod_cast this
theorem Uv (l : Af) (n N:Nat) (f:Nat→Int) (hn:n≤1000) (cn:Abs Tryz.prog 47 [BW l] (nD N f)):Abs Tryz.prog 58 [BW l,ex (.int .i64 (n:Nat)),ex (.int .i64 (n:Nat))] (nD N f):=by
 refine Ab Tryz.func58 fun s0=>?_
 rw [Tryz.ntmps58]
 refine Y1<|Wa<|Y0<|Y1<|Wm ?_;refine Wq (Ai (cn)) ?_;refine Wa<|Y0<|Ac<|Y1<|Wm<|Wm ?_;refine Wq Gr ?_;refine Wm<|Y0<|AWp.block ?_
 refine AT (fun mz σ=>∃ k,k≤0∧mz = 0 - k∧σ = ⟨[(7,.d (nD N f)),(13,.d (ex (.int .i64 ((0:Nat):Int)))),(14,.d (ex (.int .i64 (k:Nat))))],[]⟩) ?le ⟨0,by omega,rfl,rfl⟩ ?round
 case le=>exact Ao (by exact Yd<|FrLe.cons rfl (AVle.int (by omega))<|Yd<|FrLe.nil) (by exact HpLe.nil)
 case round =>
  rintro mz _ ⟨k,hk,rfl,rfl⟩
  by_cases hlt:k<0
  ·omega
  ·obtain rfl : k = 0 := by omega
   apply Y1;refine Wq At ?_;refine Y0<|Ac ?_;refine Cf ?_;apply AP;apply AF;apply AG;apply AH;refine Yn<|Y1<|Wm<|Wa<|Y0 ?_;apply Aw
   exact Yf
theorem WD (l : Af) (n d r N Dg:Nat) (f:Nat→Int) (B:Int) (hnd:n = d+r) (hn:n≤1000) (hNDg:N≤Dg+1) (hD:Dg≤100000) (hb:Bnd f Dg B) (hB:B*((Dg:Int)+1) ^ r≤9223372036854775807) (cn:A0T l N f):Abs Tryz.prog 58 [BW l,ex (.int .i64 (n:Nat)),ex (.int .i64 (d:Nat))] (nD (cN N f r).1 (Cr r f)):=by
 have hadd:∀ j,j<r→∀ i,i+1<(cS N f j).1→-9223372036854775808≤kS (cS N f j).2 i (i+1)+kS (cS N f j).2 i i∧kS (cS N f j).2 i (i+1)+kS (cS N f j).2 i i≤9223372036854775807:=fun j hj i hi=>by
  have h0:=WE N f j
  have h1:=(WG (N:=N) hb j).sum (i+1) (by omega)
  have h2:=Mj hb.pos hB (j:=j+1) (by omega)
  rw [Int.pow_succ,← Int.mul_assoc] at h2
  rw [EN] at h1
  rw [Nz,SV]
  omega
 refine Ab Tryz.func58 fun s0=>?_
 rw [Tryz.ntmps58]
 refine Y1<|Wa<|Y0<|Y1<|Wm ?_
 refine Bt [] [] (cn) (.inl rfl) rfl rfl (.inl ⟨rfl,rfl⟩) (by repeat (first | exact ArgsC.nil | refine ArgsC.d rfl (D.le.refl _) ?_ | refine AZ rfl rfl ?_)) (by decide) SelR.nil trivial rfl ?_
 rintro _ _ ⟨g,c,N0,hg1,hg2,hg4,hg3,rfl,rfl⟩
 refine ⟨_,_,_,(by first | exact AVRen.d | exact AVRen.own rfl | exact AVRen.ptr rfl | exact AVRen.fn rfl),(by repeat (first | exact SetR.nil | (apply SetR.cons;(first | exact OwRen.dead | exact Aj | exact OwRen.obj | exact Aq | exact Ak rfl);exact rfl))),(by repeat (first | exact AppR.nil | (apply AppR.cons;(first | exact OwRen.dead | exact Aj | exact OwRen.obj | exact Aq | exact Ak rfl);exact rfl))),?_⟩
 try simp only [Bc,Bw]
 refine Wa<|Y0<|Ac<|Y1<|Wm<|Wm ?_;refine Wq Gr ?_;refine Wm<|Y0<|AWp.block ?_
 refine AT (fun mz σ=>∃ k,k≤r∧mz = r - k∧σ = ⟨[(7,.d (sX g (cS N f k).1 c)),(13,.d (ex (.int .i64 (r:Nat)))),(14,.d (ex (.int .i64 (k:Nat))))],[.dead,.dead,.dead,.dead,.dead,.dead,.dead,.obj (BN [⟨g,3,nC (cS N f k).2 N0⟩] [c*1])]⟩) ?le ⟨0,by omega,rfl,rfl⟩ ?round
 case le=>exact Ao (by exact Yd<|FrLe.cons rfl (AVle.int (by omega))<|Yd<|FrLe.nil) (by exact HpLe.cons (OwLe.dead)<|HpLe.cons (OwLe.dead)<|HpLe.cons (OwLe.dead)<|HpLe.cons (OwLe.dead)<|HpLe.cons (OwLe.dead)<|HpLe.cons (OwLe.dead)<|HpLe.cons (OwLe.dead)<|HpLe.cons (OwLe.obj rfl)<|HpLe.nil)
 case round =>
  rintro mz _ ⟨k,hk,rfl,rfl⟩
  by_cases hlt:k<r
  ·have hle:=WE N f k
   apply Y1;refine Wq AA ?_;refine Y0<|Ac ?_;refine Ct ?_;refine Ys<|Ac<|AWp.block<|Ac<|Y1<|Wa<|Y0<|AWp.block ?_
   refine AT (fun mz σ=>∃ i,i≤(cS N f k).1 - 1∧mz = (cS N f k).1 - 1 - i∧σ = ⟨[(7,.d (sX g (cS N f k).1 c)),(13,.d (ex (.int .i64 (r:Nat)))),(14,.d (ex (.int .i64 (k:Nat)))),(8,.d (ex (.int .i64 ((i+1:Nat):Int))))],[.dead,.dead,.dead,.dead,.dead,.dead,.dead,.obj (BN [⟨g,3,nC (kS (cS N f k).2 i) N0⟩] [c*1])]⟩) ?lei ⟨0,by omega,rfl,rfl⟩ ?roundi
   case lei=>exact Ao (by exact Yd<|Yd<|Yd<|Yd<|FrLe.nil) (by exact HpLe.cons (OwLe.dead)<|HpLe.cons (OwLe.dead)<|HpLe.cons (OwLe.dead)<|HpLe.cons (OwLe.dead)<|HpLe.cons (OwLe.dead)<|HpLe.cons (OwLe.dead)<|HpLe.cons (OwLe.dead)<|HpLe.cons (OwLe.obj (by rw [ST]))<|HpLe.nil)
   case roundi =>
    rintro mz _ ⟨i,hi,rfl,rfl⟩
    by_cases hlti:i<(cS N f k).1 - 1
    ·have ha := hadd k hlt i (by omega)
     have hst:SetAt (nC (kS (cS N f k).2 i) N0) ((i+1)*1) [ex (.int .i64 (kS (cS N f k).2 i (i+1)+kS (cS N f k).2 i i))] (nC (kS (cS N f k).2 (i+1)) N0):=SU (cS N f k).2 i ▸ Ra (by omega)
     refine Ac<|Y1<|Wm<|Wm ?_;refine Wq (DI (ao rfl) (Ae rfl)) ?_;refine Wq AA ?_;apply Y0;refine Ct ?_;refine Ys<|Ac<|AWp.block ?_
     refine Dr [[],[],[(22,0),(23,1)],[(24,2)],[],[],[(27,5)],[(26,4),(28,6)],[(29,7)],[(25,3),(30,8)],[(22,0),(23,1)]] [[],[],[0,1],[0,1,2],[],[],[5],[4,5,6],[4,5,6,7],[0,1,2,3,4,5,6,7,8],[0,1,2,3,4,5,6,7,8,9]] ?_
     refine Xq Ar ?_;refine Xq Ar ?_;refine Xq (CO (k:=i+1) (ah rfl) (ah rfl) (Ae rfl) (Ae rfl) (by omega)) ?_;refine Xq (II (e:=⟨g,3,nC (kS (cS N f k).2 i) N0⟩) 7 0 (ah rfl) rfl rfl (Ae rfl) rfl (Fy (by omega))) ?_;refine Xq Ar ?_;refine Xq Ar ?_;refine Xq DT ?_;refine Xq (CO (k:=i) (ah rfl) (ah rfl) (Ae rfl) (Ae rfl) (by omega)) ?_;refine Xq (II (e:=⟨g,3,nC (kS (cS N f k).2 i) N0⟩) 7 0 (ah rfl) rfl rfl (Ae rfl) rfl (Fy (by omega))) ?_;refine Xq Fl ?_;refine Xq (CO (k:=i+1) (ah rfl) (ah rfl) (Ae rfl) (Ae rfl) (by omega)) ?_;refine ⟨_,rfl,?_⟩
     refine Qx (e:=⟨g,3,nC (kS (cS N f k).2 i) N0⟩) 7 0 (ao rfl) (ao rfl) rfl rfl (Ae rfl) (DK rfl) hst rfl ?_;apply AWl.nil;apply As;refine Yn<|AWp.region<|Wm ?_;refine Wq Bd ?_;refine Wa ?_;apply AWl.nil
     refine ALoop.next ((cS N f k).1 - 1 - (i+1)) (by omega) ⟨i+1,by omega,rfl,rfl⟩ ?_
     exact Ao (by exact Yd<|Yd<|Yd<|Yd<|FrLe.nil) (by exact HpLe.cons (OwLe.dead)<|HpLe.cons (OwLe.dead)<|HpLe.cons (OwLe.dead)<|HpLe.cons (OwLe.dead)<|HpLe.cons (OwLe.dead)<|HpLe.cons (OwLe.dead)<|HpLe.cons (OwLe.dead)<|HpLe.cons (OwLe.obj rfl)<|HpLe.nil)
    ·refine Ac<|Y1<|Wm<|Wm ?_;refine Wq (DI (ao rfl) (Ae rfl)) ?_;refine Wq At ?_;apply Y0;refine Cf ?_;apply AP;apply AF;apply AG;apply AH;refine Yn<|AWp.region<|Wm ?_
     obtain rfl:i = (cS N f k).1 - 1:=by omega
     refine Bt [7] [] (Oi (kS (cS N f k).2 ((cS N f k).1 - 1)) (cS N f k).1 N0 g c [c*1] (by omega) (by omega) (by omega)) (by first | exact Or.inl rfl | exact Or.inr ⟨by decide,rfl,by repeat (first | exact AvoidR.nil | refine AK rfl ?_ | refine AvoidR.dead ?_ | refine AO ?_ | refine AvoidR.obj ?_ | refine AI ?_ | refine AJ rfl ?_ | refine AvoidR.pin rfl ?_)⟩) rfl rfl (by first | exact .inl ⟨rfl,rfl⟩ | exact .inr ⟨rfl,rfl⟩) (by repeat (first | exact ArgsC.nil | refine ArgsC.d rfl (D.le.refl _) ?_ | refine AZ rfl rfl ?_)) (by decide) (by repeat (first | exact SelR.nil | refine SelR.var rfl ?_ | refine SelR.obj rfl ?_ | refine Bh rfl ?_ | refine AU rfl rfl rfl ?_)) (by repeat (first | exact trivial | refine ⟨⟨_,_,rfl⟩,?_⟩)) rfl ?_
     rintro _ _ ⟨rfl,rfl⟩
     refine ⟨_,_,_,(by first | exact AVRen.d | exact AVRen.own rfl | exact AVRen.ptr rfl | exact AVRen.fn rfl),(by repeat (first | exact SetR.nil | (apply SetR.cons;(first | exact OwRen.dead | exact Aj | exact OwRen.obj | exact Aq | exact Ak rfl);exact rfl))),(by repeat (first | exact AppR.nil | (apply AppR.cons;(first | exact OwRen.dead | exact Aj | exact OwRen.obj | exact Aq | exact Ak rfl);exact rfl))),?_⟩
     try simp only [Bc,Bw]
     refine Wa ?_;apply AWl.nil;apply As;refine Yn<|AWp.region ?_;refine Wq Bd ?_;refine Wm ?_;apply AWl.nil
     refine ALoop.next (r - (k+1)) (by omega) ⟨k+1,by omega,rfl,rfl⟩ ?_
     exact Ao (by exact Yd<|Yd<|Yd<|FrLe.nil) (by exact HpLe.cons (OwLe.dead)<|HpLe.cons (OwLe.dead)<|HpLe.cons (OwLe.dead)<|HpLe.cons (OwLe.dead)<|HpLe.cons (OwLe.dead)<|HpLe.cons (OwLe.dead)<|HpLe.cons (OwLe.dead)<|HpLe.cons (OwLe.obj rfl)<|HpLe.nil)
  ·obtain rfl : k = r := by omega
   have h7:=WF N f k
   have hle:=WE N f k
   refine RO (σ':=⟨[(7,.d (nD (cN N f k).1 (Cr k f))),(13,.d (ex (.int .i64 (k:Nat)))),(14,.d (ex (.int .i64 (k:Nat))))],[]⟩) (FY (LB 7 rfl rfl) (FY (Fo (R:=nD (cN N f k).1 (Cr k f)) 7 7 rfl rfl rfl rfl fun s' hs v hv=>?_) ?_)) ?_
   ·rw [← VO (f:=(cS N f k).2) h7.2,← h7.1]
    exact ZP (hs _ List.mem_cons_self) (by omega) (by omega) hg3 hv
   ·exact Ao (by exact Yd<|Yd<|Yd<|FrLe.nil) (by exact HpLe.nil)
   apply Y1;refine Wq At ?_;refine Y0<|Ac ?_;refine Cf ?_;apply AP;apply AF;apply AG;apply AH;refine Yn<|Y1<|Wm<|Wa<|Y0 ?_;apply Aw
   exact Yf
section
variable {P : Program} {s0:An} {n:Nat} {ops:Array Oper} {Q:Exit→AS→Prop} {rest:List Oper} {fr:List (Nat × AV)} {hp hp':List Ow} {ty:TypeId} {ps:String} {af:Array Edge}
theorem Tv {T : TypeId} {x:Operand} {d:D} {k t:Nat} (hx:AS.arg ⟨fr,hp⟩ x = .d d) (h1:One hp (.d d)) (hT:Nat.beq T 136 = false) (hd:Nat.blt t n = true) (hk:Fd hp = some k) (hs:Dc hp (.var T ([d].map .d)) = some hp') (h:AWl P s0 n ops Q rest ⟨(t,.ptr k 0) :: fr,hp'⟩):AWl P s0 n ops Q (⟨some t,.box T x,ty,ps,af,none⟩ :: rest) ⟨fr,hp⟩:=by
 have hT':T ≠ 136:=Nat.ne_of_beq_eq_false hT
 rw [Cz hs] at h
 have hk':=DF hk
 subst hk'
 refine AWl.step rfl fun s ρ a hst K hK=>?_
 have hv:d.rel s (a.eval x):=by
  have:=hst.arg x
  rw [hx] at this
  exact this
 have h1v:(a.eval x).oneCell' = true:=h1 0 ρ s _ hst.hp hv
 obtain ⟨u,e1⟩:∃ u,a.eval x = u:=⟨_,rfl⟩
 rw [e1] at hv h1v
 have hcs:u.cells = #[u]:=by cases u <;> first | rfl | cases h1v
 have hrun:(execOp a.eval ⟨some t,.box T x,ty,ps,af,none⟩).run P s.w = .ok (.value (.pointer (some ⟨s.w.heap.size,0,none⟩))) (s.w.alloc (.cells #[u] T)):=by
  simp only [execOp,e1,Instr.box,Sem.run_bind,Es,Result.andThen_ok,Sem.run_pure,hcs]
 unfold Oper.wp
 rw [hrun]
 have hle:=s.le_mk' #[u] T 0 hT'
 refine hK _ _ _ h ⟨s.mk' #[u] T 0,_,rfl,hst.new (dst:=some t) (r:=.ptr hp.length 0) (ow:=.var T ([d].map .d)) hle (FG (by simpa [QE] using hd)) (u:=.pointer (some ⟨s.w.heap.size,0,none⟩)) ⟨Nat.lt_succ_self hp.length,s.w.heap.size,by simp,rfl⟩ ?_ fun b hb=>by cases hb;exact Nat.le_refl _⟩
 refine ⟨s.w.heap.size,#[u],by simp,Nat.zero_le _,heap_alloc_new s.w _,by simp,hT',fun k hk=>absurd (hst.ok.lt _ _ hk) (Nat.lt_irrefl _),fun k av hk=>?_⟩
 cases k with
 | zero=>cases hk;exact ⟨u,by simp,h1v,d.st hv hle.chg⟩
 | succ k=>cases hk
end
theorem Wx (l : Af) (n:Int) (cd:Abs Tryz.prog 55 [BW l,ex (.int .i64 n)] (ex (.int .i64 (-1)))):Abs Tryz.prog 56 [BW l,ex (.int .i64 n)] (ex (.int .i64 0)):=by
 refine Ab Tryz.func56 fun s0=>?_
 rw [Tryz.ntmps56]
 refine Y1<|Wa<|Y0<|Y1<|Wm<|Wm ?_;refine Wq (Ai (cd)) ?_;refine Wa<|Y0<|Ac<|Y1<|Wm ?_;refine Wq AA ?_;apply Y0;refine Ct ?_;refine Y1<|Wa<|Y0 ?_;apply Aw;apply AR
 exact Yf
theorem Wy (l : Af) (n:Int) (Dg M:Nat) (F:Nat→Int) (cd:Abs Tryz.prog 55 [BW l,ex (.int .i64 n)] (ex (.int .i64 (Dg:Nat)))) (cc:Abs Tryz.prog 58 [BW l,ex (.int .i64 n),ex (.int .i64 (Dg:Nat))] (nD M F)) (hM:M≤100000) (hb:∀ k,k≤M→-9223372036854775808≤Bv k F∧Bv k F≤9223372036854775807):Abs Tryz.prog 56 [BW l,ex (.int .i64 n)] (ex (.int .i64 (Bv M F))):=by
 have hD:¬ ((Dg:Nat):Int)<0:=by omega
 refine Ab Tryz.func56 fun s0=>?_
 rw [Tryz.ntmps56]
 refine Y1<|Wa<|Y0<|Y1<|Wm<|Wm ?_;refine Wq (Ai (cd)) ?_;refine Wa<|Y0<|Ac<|Y1<|Wm ?_;refine Wq At ?_;apply Y0;refine Cf ?_;refine Ys<|Y1<|Wa<|Y0<|Ac<|Y1<|Wm<|Wm<|Wm ?_;refine Wq (Ai (cc)) ?_;refine Wq (Ex rfl (Ae rfl)) ?_;refine Wm<|Y0<|AWp.block ?_
 refine AT (fun mz σ=>∃ k,k≤M∧mz = M - k∧σ = ⟨[(6,.d (ex (.int .i64 (Bv k F)))),(17,.d (nD M F)),(18,.d (ex (.int .i64 (M:Nat)))),(19,.d (ex (.int .i64 (k:Nat))))],[]⟩) ?le ⟨0,by omega,rfl,rfl⟩ ?round
 case le=>exact Ao (by exact Yd<|Yd<|Yd<|Yd<|FrLe.nil) (by exact HpLe.nil)
 case round =>
  rintro mz _ ⟨k,hk,rfl,rfl⟩
  by_cases hlt:k<M
  ·have h1:=hb (k+1) hlt
   rw [Bv] at h1
   apply Y1;refine Wq AA ?_;refine Y0<|Ac ?_;refine Ct ?_;refine Ys<|Ac<|AWp.block<|Y1 ?_;refine Wq (Lv (k:=k) rfl (ao rfl) (Ae rfl) (Ae rfl) rfl hlt) ?_;refine Wq DV ?_;refine Wa<|Y0<|AWp.region<|Wm<|Wm ?_;refine Wq Fl ?_;refine Wa ?_;apply AWl.nil;apply As;refine Yn<|AWp.region ?_;refine Wq Bd ?_;refine Wm ?_;apply AWl.nil
   refine ALoop.next (M - (k+1)) (by omega) ⟨k+1,by omega,rfl,rfl⟩ ?_
   exact Ao (by exact Yd<|Yd<|Yd<|Yd<|FrLe.nil) (by exact HpLe.nil)
  ·obtain rfl : k = M := by omega
   apply Y1;refine Wq At ?_;refine Y0<|Ac ?_;refine Cf ?_;apply AP;apply AF;apply AG;apply AH;refine Yn<|Y1<|Wm<|Wa<|Y0 ?_;apply Aw
   exact Yf
theorem Va (l : Af) (n d:Int) (ck:Abs Tryz.prog 46 [BW l,ex (.int .i64 n)] (ex (.int .i64 0))) (cd:Abs Tryz.prog 55 [BW l,ex (.int .i64 n)] (ex (.int .i64 d))):Abs Tryz.prog 22 [BW l,ex (.int .i64 n)] (DM [ex (.int .i64 d),ex (.int .i64 0)]):=by
 refine Ab Tryz.func22 fun s0=>?_
 rw [Tryz.ntmps22]
 refine Y1<|Wa<|Wa<|Y0<|Ac<|Y1<|Wm<|Wm ?_;refine Wq (Ai (ck)) ?_;refine Wa<|Y0<|Y1<|Wm ?_;refine Wq At ?_;apply Y0;refine Cf ?_;refine Ys<|Y1<|Wm<|Wm ?_;refine Wq (Ai (cd)) ?_;refine Wa<|Wa<|Y0 ?_;apply Aw
 exact BQ (CW (ResV.tmp rfl rfl) (ResV.tmp rfl rfl) (Cy (D.le.refl _) (D.le.refl _)))
theorem XA (l : Af) (n d:Int) (ck:Abs Tryz.prog 46 [BW l,ex (.int .i64 n)] (ex (.int .i64 0))) (cd:Abs Tryz.prog 56 [BW l,ex (.int .i64 n)] (ex (.int .i64 d))):Abs Tryz.prog 24 [BW l,ex (.int .i64 n)] (DM [ex (.int .i64 d),ex (.int .i64 0)]):=by
 refine Ab Tryz.func24 fun s0=>?_
 rw [Tryz.ntmps24]
 refine Y1<|Wa<|Wa<|Y0<|Ac<|Y1<|Wm<|Wm ?_;refine Wq (Ai (ck)) ?_;refine Wa<|Y0<|Y1<|Wm ?_;refine Wq At ?_;apply Y0;refine Cf ?_;refine Ys<|Y1<|Wm<|Wm ?_;refine Wq (Ai (cd)) ?_;refine Wa<|Wa<|Y0 ?_;apply Aw
 exact BQ (CW (ResV.tmp rfl rfl) (ResV.tmp rfl rfl) (Cy (D.le.refl _) (D.le.refl _)))
theorem A12 (l : Af) (n d:Int) (hd:d<0∨64<d) (ck:Abs Tryz.prog 46 [BW l,ex (.int .i64 n)] (ex (.int .i64 0))):Abs Tryz.prog 16 [BW l,ex (.int .i64 n),ex (.int .i64 d)] (DM [ex (.int .i64 0),ex (.int .i64 1)]):=by
 rcases hd with hd | hd
 ·refine Ab Tryz.func16 fun s0 => ?_
  rw [Tryz.ntmps16]
  refine Y1<|Wa<|Wa<|Y0<|Ac<|Y1<|Wm<|Wm ?_;refine Wq (Ai (ck)) ?_;refine Wa<|Y0<|Y1<|Wm ?_;refine Wq At ?_;apply Y0;refine Cf ?_;refine Ys<|Ac<|Y1<|Wm ?_;refine Wq AA ?_;refine Wm ?_;refine Ws ?_;refine Ws ?_;refine Wq AW ?_;apply Y0;refine Ct ?_;refine Y1<|Wa<|Wa<|Y0 ?_;apply Aw;apply AR
  exact BQ (CW (ResV.tmp rfl rfl) (ResV.tmp rfl rfl) (Cy (D.le.refl _) (D.le.refl _)))
 ·have h0 : ¬ d < 0 := by omega
  refine Ab Tryz.func16 fun s0=>?_
  rw [Tryz.ntmps16]
  refine Y1<|Wa<|Wa<|Y0<|Ac<|Y1<|Wm<|Wm ?_;refine Wq (Ai (ck)) ?_;refine Wa<|Y0<|Y1<|Wm ?_;refine Wq At ?_;apply Y0;refine Cf ?_;refine Ys<|Ac<|Y1<|Wm ?_;refine Wq At ?_;refine Wm ?_;refine Wg Ar ?_;refine Wg AA ?_;refine Wq Bz ?_;apply Y0;refine Ct ?_;refine Y1<|Wa<|Wa<|Y0 ?_;apply Aw;apply AR
  exact BQ (CW (ResV.tmp rfl rfl) (ResV.tmp rfl rfl) (Cy (D.le.refl _) (D.le.refl _)))
theorem Uy (l : Af) (n d:Int) (hd:0<d) (ck:Abs Tryz.prog 46 [BW l,ex (.int .i64 n)] (ex (.int .i64 0))) (cd:Abs Tryz.prog 55 [BW l,ex (.int .i64 n)] (ex (.int .i64 d))):Abs Tryz.prog 28 [BW l,ex (.int .i64 n)] (DM [ex (.slice none 0 0),ex (.int .i64 160)]):=by
 refine Ab Tryz.func28 fun s0=>?_
 rw [Tryz.ntmps28]
 apply Y1;refine Tv (ao rfl) One.sl rfl rfl rfl rfl ?_;refine Tw (ao rfl) rfl rfl rfl rfl rfl ?_;refine Wa<|Wa<|Y0<|Ac<|Y1 ?_;refine Wq Bb ?_;refine Wq Bb ?_;refine Wq (Ai (ck)) ?_;refine Wa<|Y0<|Y1<|Wm ?_;refine Wq At ?_;apply Y0;refine Cf ?_;refine Ys<|Ac<|Y1 ?_;refine Wq Bb ?_;refine Wq Bb ?_;refine Wq (Ai (cd)) ?_;refine Wq AA ?_;apply Y0;refine Ct ?_;refine Y1<|Wa<|Wa<|Y0 ?_;apply Aw;apply AR
 exact BQ (CW (ResV.tmp rfl rfl) (ResV.tmp rfl rfl) (Cy (D.le.refl _) (D.le.refl _)))
abbrev ZK (s : Nat):Ow:=.var 5 [.d (ex (.int .u8 (s:Nat)))]
def Jc (s t:Nat):Bool:=(s != t) && A07 s t
theorem Ps (s t:Nat) (hs:s<256) (ht:t<256):Con Tryz.prog 54 [.d (ex (.int .u8 (t:Nat))),.ptr 0 0] [ZK s] [] (fun r hp'=>r = .d (ex (.bool (Jc s t)))∧hp' = [ZK s,.dead]):=by
 by_cases h:s = t
 ·subst h
  have e:Jc s s = false:=by simp [Jc]
  rw [e]
  refine BH Tryz.func54 rfl (Am Tryz.func54 (by kernel_rfl) (by kernel_rfl)) rfl fun s0 pv0=>?_
  rw [Tryz.ntmps54]
  refine Y1<|Wa<|Y0<|Y1 ?_;refine Wq Hl ?_;refine Wm ?_;refine Wq At ?_;refine Wm ?_;refine Ws ?_;refine Ws ?_;refine Ws ?_;refine Ws ?_;refine Wq Bz ?_;refine Wa<|Y0 ?_;apply Aw
  refine BA (RetsA.one rfl) rfl ?_ rfl
  exact ⟨rfl,rfl⟩
 ·have h1 : ¬ ((s : Nat) : Int) = ((t : Nat) : Int) := by omega
  have e:Jc s t = A07 s t:=by simp [Jc,h]
  rw [e]
  refine BH Tryz.func54 rfl (Am Tryz.func54 (by kernel_rfl) (by kernel_rfl)) rfl fun s0 pv0=>?_
  rw [Tryz.ntmps54]
  refine Y1<|Wa<|Y0<|Y1 ?_;refine Wq Hl ?_;refine Wm ?_;refine Wq AA ?_;refine Wm ?_;refine Wg Hl ?_;refine Wg Ar ?_;refine Wg (Qo (a:=s) (b:=t) (ao rfl) (ao rfl) hs ht) ?_;refine Wg Lp ?_;refine Wq AW ?_;refine Wa<|Y0 ?_;apply Aw
  refine BA (RetsA.one rfl) rfl ?_ rfl
  exact ⟨rfl,rfl⟩
theorem RI (L : List Nat) (s z:Nat) (hs:s<256) (hL:∀ k,k<L.length→L.getD k default<256) (hl:L.length≤1000) (hz:z≤L.length) (hp:∀ k,k<z→Jc s (L.getD k default) = false) (he:z<L.length→Jc s (L.getD z default) = true):Con Tryz.prog 103 [.d (TE L),.fn 54 [0]] [ZK s] [] (fun r hp'=>r = .d (ex (.int .i64 (if z<L.length then (z:Nat) else -1)))∧∃ tl,hp' = ZK s :: .dead :: tl∧(tl = []∨tl = [.dead])):=by
 refine BH Tryz.func103 rfl (Am Tryz.func103 (by kernel_rfl) (by kernel_rfl)) rfl fun s0 pv0=>?_
 rw [Tryz.ntmps103]
 refine Y1<|Wa<|Y0<|Ac<|Y1<|Wm ?_;refine Wq En ?_;refine Wm<|Y0<|AWp.block ?_
 refine AT (fun mz σ=>∃ k,k≤z∧mz = z - k∧σ = ⟨[(0,.d (TE L)),(1,.fn 54 [0]),(6,.d (TE L)),(7,.d (ex (.int .i64 (L.length:Nat)))),(8,.d (ex (.int .i64 (k:Nat))))],[ZK s,.pin [(pv0,.own 0)]]⟩) ?le ⟨0,by omega,rfl,rfl⟩ ?round
 case le=>exact Ao (by exact Yd<|FrLe.cons rfl (AVle.fn rfl)<|Yd<|Yd<|Yd<|FrLe.nil) (by exact HpLe.cons (BV rfl)<|HpLe.cons (Bi rfl)<|HpLe.nil)
 case round =>
  rintro mz _ ⟨k,hk,rfl,rfl⟩
  by_cases hlt:k<z
  ·have hlt' : k < L.length := by omega
   have hk:=hp k hlt
   apply Y1;refine Wq AA ?_;refine Y0<|Ac ?_;refine Ct ?_;refine Ys<|Ac<|AWp.block<|Y1<|Wm<|Wa<|Y0<|Y1<|Wm<|Wm<|Wm ?_;refine Wq BU ?_;refine Wq DV ?_
   refine Bt [0] [0] (Ps s (L.getD k default) hs (hL k hlt')) (by first | exact Or.inl rfl | exact Or.inr ⟨by decide,rfl,by repeat (first | exact AvoidR.nil | refine AK rfl ?_ | refine AvoidR.dead ?_ | refine AO ?_ | refine AvoidR.obj ?_ | refine AI ?_ | refine AJ rfl ?_ | refine AvoidR.pin rfl ?_)⟩) rfl rfl (by first | exact .inl ⟨rfl,rfl⟩ | exact .inr ⟨rfl,rfl⟩) (by repeat (first | exact ArgsC.nil | refine ArgsC.d rfl (D.le.refl _) ?_ | refine AZ rfl rfl ?_)) (by decide) (by repeat (first | exact SelR.nil | refine SelR.var rfl ?_ | refine SelR.obj rfl ?_ | refine Bh rfl ?_ | refine AU rfl rfl rfl ?_)) (by repeat (first | exact trivial | refine ⟨⟨_,_,rfl⟩,?_⟩)) rfl ?_
   rintro _ _ ⟨rfl,rfl⟩
   refine ⟨_,_,_,(by first | exact AVRen.d | exact AVRen.own rfl | exact AVRen.ptr rfl | exact AVRen.fn rfl),(by repeat (first | exact SetR.nil | (apply SetR.cons;(first | exact OwRen.dead | exact Aj | exact OwRen.obj | exact Aq | exact Ak rfl);exact rfl))),(by repeat (first | exact AppR.nil | (apply AppR.cons;(first | exact OwRen.dead | exact Aj | exact OwRen.obj | exact Aq | exact Ak rfl);exact rfl))),?_⟩
   try simp only [Bc,Bw]
   rw [hk]
   apply Y0;refine Cf ?_;apply BJ;apply As;refine Yn<|AWp.region ?_;refine Wq Bd ?_;refine Wm ?_;apply AWl.nil
   refine ALoop.next (z - (k+1)) (by omega) ⟨k+1,by omega,rfl,rfl⟩ ?_
   exact Ao (by exact Yd<|FrLe.cons rfl (AVle.fn rfl)<|Yd<|Yd<|Yd<|FrLe.nil) (by exact HpLe.cons (BV rfl)<|HpLe.cons (Bi rfl)<|HpLe.nil)
  ·obtain rfl : k = z := by omega
   by_cases hlt:k<L.length
   ·have hk:=he hlt
    apply Y1;refine Wq AA ?_;refine Y0<|Ac ?_;refine Ct ?_;refine Ys<|Ac<|AWp.block<|Y1<|Wm<|Wa<|Y0<|Y1<|Wm<|Wm<|Wm ?_;refine Wq BU ?_;refine Wq DV ?_
    refine Bt [0] [0] (Ps s (L.getD k default) hs (hL k hlt)) (by first | exact Or.inl rfl | exact Or.inr ⟨by decide,rfl,by repeat (first | exact AvoidR.nil | refine AK rfl ?_ | refine AvoidR.dead ?_ | refine AO ?_ | refine AvoidR.obj ?_ | refine AI ?_ | refine AJ rfl ?_ | refine AvoidR.pin rfl ?_)⟩) rfl rfl (by first | exact .inl ⟨rfl,rfl⟩ | exact .inr ⟨rfl,rfl⟩) (by repeat (first | exact ArgsC.nil | refine ArgsC.d rfl (D.le.refl _) ?_ | refine AZ rfl rfl ?_)) (by decide) (by repeat (first | exact SelR.nil | refine SelR.var rfl ?_ | refine SelR.obj rfl ?_ | refine Bh rfl ?_ | refine AU rfl rfl rfl ?_)) (by repeat (first | exact trivial | refine ⟨⟨_,_,rfl⟩,?_⟩)) rfl ?_
    rintro _ _ ⟨rfl,rfl⟩
    refine ⟨_,_,_,(by first | exact AVRen.d | exact AVRen.own rfl | exact AVRen.ptr rfl | exact AVRen.fn rfl),(by repeat (first | exact SetR.nil | (apply SetR.cons;(first | exact OwRen.dead | exact Aj | exact OwRen.obj | exact Aq | exact Ak rfl);exact rfl))),(by repeat (first | exact AppR.nil | (apply AppR.cons;(first | exact OwRen.dead | exact Aj | exact OwRen.obj | exact Aq | exact Ak rfl);exact rfl))),?_⟩
    try simp only [Bc,Bw]
    rw [hk]
    apply Y0;refine Ct ?_;refine Y1<|Wm<|Wa<|Y0 ?_;apply Aw;apply Cj;apply AR;apply Ev;apply Cj;apply AR
    refine BA (RetsA.one rfl) rfl ?_ rfl
    exact ⟨by rw [if_pos hlt],_,rfl,.inr rfl⟩
   ·apply Y1;refine Wq At ?_;refine Y0<|Ac ?_;refine Cf ?_;apply AP;apply AF;apply AG;apply AH;refine Yn<|Y1<|Wa<|Y0 ?_;apply Aw
    refine BA (RetsA.one rfl) rfl ?_ rfl
    exact ⟨by rw [if_neg hlt],_,rfl,.inl rfl⟩
theorem WM (p : Nat→Bool) (l:List Nat):∃ z,z≤l.length∧(∀ k,k<z→p (l.getD k default) = false)∧(z<l.length→p (l.getD z default) = true)∧l.any p = decide (z<l.length):=by
 induction l with
 | nil=>exact ⟨0,Nat.le_refl 0,fun k hk=>absurd hk (by omega),fun h=>absurd h (by simp),rfl⟩
 | cons a l ih =>
  cases ha:p a with
  | true=>exact ⟨0,by simp,fun k hk=>absurd hk (by omega),fun _=>ha,by simp [ha]⟩
  | false =>
   obtain ⟨z,h1,h2,h3,h4⟩:=ih
   refine ⟨z+1,by simpa using h1,fun k hk=>?_,fun h=>h3 (by simpa using h),by simp [ha,h4]⟩
   cases k with
   | zero=>exact ha
   | succ k=>exact h2 k (by omega)
theorem Vb (L : List Nat) (s:Nat) (hs:s<256) (hL:∀ k,k<L.length→L.getD k default<256) (hl:L.length≤1000):Con Tryz.prog 53 [.d (TE L),.fn 54 [0]] [ZK s] [] (fun r hp'=>r = .d (ex (.bool (L.any (Jc s))))∧hp' = [ZK s,.dead,.dead]):=by
 obtain ⟨z,h1,h2,h3,h4⟩:=WM (Jc s) L
 rw [h4]
 have c:=(RI L s z hs hL hl h1 h2 h3).mono (Q':=fun r hp'=>r = .d (ex (.int .i64 (if z<L.length then (z:Nat) else -1)))∧∃ tl,hp' = ZK s :: .dead :: tl) fun r hp' ⟨q1,tl,q2,_⟩=>⟨q1,tl,q2⟩
 have c:=Qv (s:=s) c
 by_cases hz:z<L.length
 ·rw [if_pos hz] at c
  rw [decide_eq_true hz]
  refine BH Tryz.func53 rfl (Am Tryz.func53 (by kernel_rfl) (by kernel_rfl)) rfl fun s0 pv0=>?_
  rw [Tryz.ntmps53]
  refine Y1<|Wa<|Y0<|Y1<|Wm<|Wm ?_
  refine Bt [0] [] (c) (by first | exact Or.inl rfl | exact Or.inr ⟨by decide,rfl,by repeat (first | exact AvoidR.nil | refine AK rfl ?_ | refine AvoidR.dead ?_ | refine AO ?_ | refine AvoidR.obj ?_ | refine AI ?_ | refine AJ rfl ?_ | refine AvoidR.pin rfl ?_)⟩) rfl rfl (by first | exact .inl ⟨rfl,rfl⟩ | exact .inr ⟨rfl,rfl⟩) (by repeat (first | exact ArgsC.nil | refine ArgsC.d rfl (D.le.refl _) ?_ | refine AZ rfl rfl ?_)) (by decide) (by repeat (first | exact SelR.nil | refine SelR.var rfl ?_ | refine SelR.obj rfl ?_ | refine Bh rfl ?_ | refine AU rfl rfl rfl ?_)) (by repeat (first | exact trivial | refine ⟨⟨_,_,rfl⟩,?_⟩)) rfl ?_
  rintro _ _ ⟨rfl,rfl⟩
  refine ⟨_,_,_,(by first | exact AVRen.d | exact AVRen.own rfl | exact AVRen.ptr rfl | exact AVRen.fn rfl),(by repeat (first | exact SetR.nil | (apply SetR.cons;(first | exact OwRen.dead | exact Aj | exact OwRen.obj | exact Aq | exact Ak rfl);exact rfl))),(by repeat (first | exact AppR.nil | (apply AppR.cons;(first | exact OwRen.dead | exact Aj | exact OwRen.obj | exact Aq | exact Ak rfl);exact rfl))),?_⟩
  try simp only [Bc,Bw]
  refine Wq AA ?_;refine Wa<|Y0 ?_;apply Aw
  refine BA (RetsA.one rfl) rfl ?_ rfl
  exact ⟨rfl,rfl⟩
 ·rw [if_neg hz] at c
  rw [decide_eq_false hz]
  refine BH Tryz.func53 rfl (Am Tryz.func53 (by kernel_rfl) (by kernel_rfl)) rfl fun s0 pv0=>?_
  rw [Tryz.ntmps53]
  refine Y1<|Wa<|Y0<|Y1<|Wm<|Wm ?_
  refine Bt [0] [] (c) (by first | exact Or.inl rfl | exact Or.inr ⟨by decide,rfl,by repeat (first | exact AvoidR.nil | refine AK rfl ?_ | refine AvoidR.dead ?_ | refine AO ?_ | refine AvoidR.obj ?_ | refine AI ?_ | refine AJ rfl ?_ | refine AvoidR.pin rfl ?_)⟩) rfl rfl (by first | exact .inl ⟨rfl,rfl⟩ | exact .inr ⟨rfl,rfl⟩) (by repeat (first | exact ArgsC.nil | refine ArgsC.d rfl (D.le.refl _) ?_ | refine AZ rfl rfl ?_)) (by decide) (by repeat (first | exact SelR.nil | refine SelR.var rfl ?_ | refine SelR.obj rfl ?_ | refine Bh rfl ?_ | refine AU rfl rfl rfl ?_)) (by repeat (first | exact trivial | refine ⟨⟨_,_,rfl⟩,?_⟩)) rfl ?_
  rintro _ _ ⟨rfl,rfl⟩
  refine ⟨_,_,_,(by first | exact AVRen.d | exact AVRen.own rfl | exact AVRen.ptr rfl | exact AVRen.fn rfl),(by repeat (first | exact SetR.nil | (apply SetR.cons;(first | exact OwRen.dead | exact Aj | exact OwRen.obj | exact Aq | exact Ak rfl);exact rfl))),(by repeat (first | exact AppR.nil | (apply AppR.cons;(first | exact OwRen.dead | exact Aj | exact OwRen.obj | exact Aq | exact Ak rfl);exact rfl))),?_⟩
  try simp only [Bc,Bw]
  refine Wq At ?_;refine Wa<|Y0 ?_;apply Aw
  refine BA (RetsA.one rfl) rfl ?_ rfl
  exact ⟨rfl,rfl⟩
theorem UY (l : Af) (n:Nat) (hn:n≤8) (hl:l.length≤1000) (ck:Abs Tryz.prog 46 [BW l,ex (.int .i64 (n:Nat))] (ex (.int .i64 0))):Abs Tryz.prog 18 [BW l,ex (.int .i64 (n:Nat))] (DM [TE (A0i l (2 ^ n)),ex (.int .i64 0)]):=by
 have h256:=VD hn
 have ci:=Mu l n hn hl
 have hL:∀ k,k<(Ei l (2 ^ n)).length→(Ei l (2 ^ n)).getD k default<256:=fun k hk=>by
  have:(Ei l (2 ^ n)).getD k default∈Ei l (2 ^ n):=by
   rw [List.getD_eq_getElem?_getD,List.getElem?_eq_getElem hk]
   exact List.getElem_mem hk
  have:=SX this
  omega
 have hlen:=NA l (2 ^ n)
 unfold A0i
 generalize Ei l (2 ^ n) = L at ci hL hlen ⊢
 have hfl:∀ k,((L.take k).filter fun s => !L.any (Jc s)).length≤k:=fun k=>by
  have h1:=List.length_filter_le (fun s => !L.any (Jc s)) (L.take k)
  rw [List.length_take] at h1
  omega
 refine Ab Tryz.func18 fun s0=>?_
 rw [Tryz.ntmps18]
 refine Y1<|Wa<|Wa<|Y0<|Ac<|Y1<|Wm<|Wm ?_;refine Wq (Ai (ck)) ?_;refine Wa<|Y0<|Y1<|Wm ?_;refine Wq At ?_;apply Y0;refine Cf ?_;refine Ys<|Y1<|Wm<|Wm ?_;refine Wq (Ai (ci)) ?_;refine Wa<|Y0<|Y1<|Wa<|Y0<|Ac<|Y1<|Wm ?_;refine Wq En ?_;refine Wm<|Y0<|AWp.block ?_
 refine Ia 8 5 1 rfl (by decide) (by decide) rfl rfl ?_
 skip
 refine AT (fun mz σ=>∃ k,k≤L.length∧mz = L.length - k∧σ = ⟨[(7,.d (TE L)),(8,.own 0),(20,.d (TE L)),(21,.d (ex (.int .i64 (L.length:Nat)))),(22,.d (ex (.int .i64 (k:Nat))))],[.row 5 1 (((L.take k).filter fun s => !L.any (Jc s)).map fun s=>[ex (.int .u8 (s:Nat))])]⟩) ?le ⟨0,by omega,rfl,rfl⟩ ?round
 case le=>exact Ao (by exact Yd<|FrLe.cons rfl (AVle.own rfl)<|Yd<|Yd<|Yd<|FrLe.nil) (by exact Yr<|HpLe.nil)
 case round =>
  rintro mz _ ⟨k,hk,rfl,rfl⟩
  by_cases hlt:k<L.length
  ·have hk:=hL k hlt
   have hle:=hfl k
   apply Y1;refine Wq AA ?_;refine Y0<|Ac ?_;refine Ct ?_;refine Ys<|Ac<|AWp.block<|Y1 ?_;refine Wq BU ?_;refine Wq DV ?_;refine Al ?_;refine IL (ao rfl) (ao rfl) rfl (Ae rfl) (by first | exact DK rfl | exact One.sl | exact FH) rfl rfl ?_;refine Y0<|Y1<|Wm ?_;refine Wq (FA [1] rfl) ?_
   refine Bt [1] [] (Vb L (L.getD k default) hk hL (by omega)) (by first | exact Or.inl rfl | exact Or.inr ⟨by decide,rfl,by repeat (first | exact AvoidR.nil | refine AK rfl ?_ | refine AvoidR.dead ?_ | refine AO ?_ | refine AvoidR.obj ?_ | refine AI ?_ | refine AJ rfl ?_ | refine AvoidR.pin rfl ?_)⟩) rfl rfl (by first | exact .inl ⟨rfl,rfl⟩ | exact .inr ⟨rfl,rfl⟩) (by repeat (first | exact ArgsC.nil | refine ArgsC.d rfl (D.le.refl _) ?_ | refine AZ rfl rfl ?_)) (by decide) (by repeat (first | exact SelR.nil | refine SelR.var rfl ?_ | refine SelR.obj rfl ?_ | refine Bh rfl ?_ | refine AU rfl rfl rfl ?_)) (by repeat (first | exact trivial | refine ⟨⟨_,_,rfl⟩,?_⟩)) rfl ?_
   rintro _ _ ⟨rfl,rfl⟩
   refine ⟨_,_,_,(by first | exact AVRen.d | exact AVRen.own rfl | exact AVRen.ptr rfl | exact AVRen.fn rfl),(by repeat (first | exact SetR.nil | (apply SetR.cons;(first | exact OwRen.dead | exact Aj | exact OwRen.obj | exact Aq | exact Ak rfl);exact rfl))),(by repeat (first | exact AppR.nil | (apply AppR.cons;(first | exact OwRen.dead | exact Aj | exact OwRen.obj | exact Aq | exact Ak rfl);exact rfl))),?_⟩
   try simp only [Bc,Bw,Sw]
   cases hb:L.any (Jc (L.getD k default)) with
   | true =>
    refine Wq Ci ?_;apply Y0;refine Cf ?_;apply BJ;apply As;refine Yn<|AWp.region ?_;refine Wq Bd ?_;refine Wm ?_;apply AWl.nil
    refine ALoop.next (L.length - (k+1)) (by omega) ⟨k+1,by omega,rfl,rfl⟩ ?_
    exact Ao (by exact Yd<|FrLe.cons rfl (AVle.own rfl)<|Yd<|Yd<|Yd<|FrLe.nil) (by (refine HpLe.cons (EG (by rw [IP hlt,List.filter_append,List.filter_cons,hb];simp)) ?_);exact HpLe.nil)
   | false =>
    refine Wq Ci ?_;apply Y0;refine Ct ?_;refine AWp.region<|Wm ?_;refine Wq Bb ?_;(refine DB rfl rfl ?_;(refine DS (Ae rfl) (Ae rfl) rfl rfl rfl rfl rfl ?_;(repeat ((first | refine ⟨_,BL (ao rfl),?_⟩ | refine ⟨_,Po rfl,?_⟩);refine ⟨_,rfl,?_⟩));refine ⟨_,rfl,?_⟩));(refine Oe (ao rfl) rfl rfl (Ae rfl) (Ae rfl) rfl rfl (by simp [CF];omega) (by simp [CF];omega) rfl (by first | ((repeat (first | exact PlainHp.nil | refine PlainHp.var ?_ | refine DA ?_ | refine PlainHp.dead ?_ | refine PlainHp.obj ?_ | refine PlainHp.pin rfl ?_ | refine Db rfl ?_));done) | fail) rfl ?_);refine Wa ?_;apply AWl.nil;apply As;refine Yn<|AWp.region ?_;refine Wq Bd ?_;refine Wm ?_;apply AWl.nil
    refine ALoop.next (L.length - (k+1)) (by omega) ⟨k+1,by omega,rfl,rfl⟩ ?_
    exact Ao (by exact Yd<|FrLe.cons rfl (AVle.own rfl)<|Yd<|Yd<|Yd<|FrLe.nil) (by (refine HpLe.cons (EG (by rw [IP hlt,List.filter_append,List.filter_cons,hb];exact RZ _ _)) ?_);exact HpLe.nil)
  ·obtain rfl : k = L.length := by omega
   apply Y1;refine Wq At ?_;refine Y0<|Ac ?_;refine Cf ?_;apply AP;apply AF;apply AG;apply AH;refine Yn<|Y1<|Wm<|Wa<|Wa<|Y0 ?_;apply Aw
   rw [List.take_length]
   exact BQ (CW (ResV.tmp rfl rfl) (ResV.tmp rfl rfl) (Cy (D.le.refl _) (D.le.refl _)))
def CA (F : Nat→Rat) (j:Nat):List D:=Cp (F j)
theorem EZ (F : Nat→Rat) (j:Nat):(CA F j).length = 4:=Ea _
def Dp (n : Nat) (F:Nat→Rat):D:=rD 71 4 (CA F) n
def zz : List D:=[ex (.bool false),ex (.slice none 0 0),ex (.bool false),ex (.slice none 0 0)]
abbrev q0 : Rat:=((0:Int):Rat)
def zF (k j:Nat):List D:=if j<k then Cp q0 else zz
theorem A02 (k j:Nat):(zF k j).length = 4:=by
 unfold zF
 split
 ·exact Ea _
 ·rfl
theorem A2f : zF 0 = fun _=>zz:=funext fun j=>if_neg (by omega)
theorem A01 (k : Nat):Vi (zF k) k (Cp q0) = zF (k+1):=by
 funext j
 unfold Vi zF
 by_cases h:j = k
 ·rw [if_pos h,if_pos (by omega)]
 ·rw [if_neg h]
  by_cases h2:j<k
  ·rw [if_pos h2,if_pos (by omega)]
  ·rw [if_neg h2,if_neg (by omega)]
theorem A03 (n : Nat):flF (zF n) n = flF (CA fun _=>q0) n:=Ue fun j hj=>if_pos hj
theorem JU (n : Nat) (hn:n≤100000):Con Tryz.prog 113 [.d (ex (.int .i64 (n:Nat)))] [] [] (fun r hp'=>∃ g,r = .d (sX g n n)∧hp' = [.dead,.obj (BD [⟨g,71,flF (CA fun _=>q0) n⟩])]):=by
 refine Gv Tryz.func113 rfl (Am Tryz.func113 (by kernel_rfl) (by kernel_rfl)) rfl fun s0=>?_
 rw [Tryz.ntmps113]
 refine Y1<|Wa<|Y0<|Y1<|Wm ?_;refine Zz (sz:=4) (c:=n) (ao rfl) (ao rfl) (Ae rfl) (Ae rfl) rfl (by decide) rfl (by omega) rfl rfl rfl rfl (fun g=>rfl) fun g=>?_;refine Wa<|Y0<|Ac<|Y1<|Wm<|Wm<|Y0<|AWp.block ?_
 refine AT (fun mz σ=>∃ k,k≤n∧mz = n - k∧σ = ⟨[(3,.d (sX g n n)),(7,.d (ex (.int .i64 (n:Nat)))),(8,.d (ex (.int .i64 (k:Nat))))],[.pin [],.obj (BD [⟨g,71,flF (zF k) n⟩])]⟩) ?le ⟨0,by omega,rfl,rfl⟩ ?round
 case le=>exact Ao (by exact Yd<|Yd<|Yd<|FrLe.nil) (by refine HpLe.cons (Bi rfl) ?_;(refine HpLe.cons (OwLe.obj (by rw [A2f];rfl)) ?_);exact HpLe.nil)
 case round =>
  rintro mz _ ⟨k,hk,rfl,rfl⟩
  by_cases hlt:k<n
  ·have hst:SetAt (flF (zF k) n) (k*4) (Cp q0) (flF (zF (k+1)) n):=A01 k ▸ SetAt.flF (A02 k) (Ea _) hlt
   apply Y1;refine Wq AA ?_;refine Y0<|Ac ?_;refine Ct ?_;refine Ys<|Ac<|AWp.block<|Y1<|Wm<|Wa<|Y0<|AWp.region<|Wm<|Wm ?_;refine Wq (Ai (Jd 0 (by omega) (by omega))) ?_;refine Wq (CO (k:=k) (ao rfl) (ao rfl) (Ae rfl) (Ae rfl) hlt) ?_;refine Tu (e:=⟨g,71,flF (zF k) n⟩) 1 0 (ao rfl) (ao rfl) rfl rfl (Ae rfl) rfl hst rfl ?_;apply AWl.nil;apply As;refine Yn<|AWp.region ?_;refine Wq Bd ?_;refine Wm ?_;apply AWl.nil
   refine ALoop.next (n - (k+1)) (by omega) ⟨k+1,by omega,rfl,rfl⟩ ?_
   exact Ao (by exact Yd<|Yd<|Yd<|FrLe.nil) (by exact HpLe.cons (Bi rfl)<|HpLe.cons (OwLe.obj rfl)<|HpLe.nil)
  ·obtain rfl : k = n := by omega
   apply Y1;refine Wq At ?_;refine Y0<|Ac ?_;refine Cf ?_;apply AP;apply AF;apply AG;apply AH;refine Yn<|Y1<|Wm<|Wa<|Y0 ?_;apply Aw
   refine BA (RetsA.one rfl) rfl ?_ rfl
   exact ⟨g,rfl,by rw [A03]⟩
section
variable {P : Program} {hp:List Ow} {arg:Operand→AV} {dd:Option Tmp} {ty:TypeId} {ps:String} {af:Array Edge} {gd:Option (Nat × Bool)}
theorem VB {r k:Nat} (h:k<r):(List.range r).getD k default = k:=by
 rw [List.getD_eq_getElem?_getD,List.getElem?_range h];rfl
theorem HW {x y:Operand} {t:TypeId} {e n b n' b' T sz r k:Nat} {d:TypeDesc} {z z':Value} {F:Nat→List D} {κ:IntKind} (hx:Em hp (arg x) = some (rD T sz F r)) (hy:arg y = .d (ex (.int κ ((k:Nat):Int)))) (ht:Tab P t (.slice e) n b z) (he:Tab P e d n' b' z') (hsz:n' = sz) (hk:k<r):Quiet P hp ⟨dd,.indexAddr t x y,ty,ps,af,gd⟩ arg (.d (HP T (F k))):=by
 have:=Hm (dd:=dd) (ty:=ty) (ps:=ps) (af:=af) (gd:=gd) hx hy ht he hsz (by simpa using hk)
 rwa [VB hk] at this
theorem CC {x : Operand} {t:TypeId} {e n b T sz r:Nat} {z:Value} {F:Nat→List D} (hx:Em hp (arg x) = some (rD T sz F r)) (ht:Tab P t (.slice e) n b z):Quiet P hp ⟨dd,.call { callee:=.builtin .len,args:=#[x],argTypes:=#[t] },ty,ps,af,gd⟩ arg (.d (ex (.int .i64 (r:Nat)))):=by
 have:=IH (dd:=dd) (ty:=ty) (ps:=ps) (af:=af) (gd:=gd) hx ht
 rwa [List.length_range] at this
end
def EE (H : Nat→Rat) (c:Rat) (G:Nat→Rat) (k i j:Nat):Rat:=if k≤j∧j<k+i then H j+c*G (j - k) else H j
theorem MF (H : Nat→Rat) (c:Rat) (G:Nat→Rat) (k:Nat):EE H c G k 0 = H:=funext fun j=>if_neg (by omega)
theorem Ti (H : Nat→Rat) (c:Rat) (G:Nat→Rat) (k i:Nat):EE H c G k i (i+k) = H (i+k):=if_neg (by omega)
theorem Uw (H : Nat→Rat) (c:Rat) (G:Nat→Rat) (k i:Nat):Vi (CA (EE H c G k i)) (i+k) (Cp (EE H c G k i (i+k)+c*G i)) = CA (EE H c G k (i+1)):=by
 funext j
 unfold Vi CA
 by_cases h:j = i+k
 ·subst h
  rw [if_pos rfl,Ti,EE,if_pos (by omega),show i+k - k = i by omega]
 ·rw [if_neg h,EE,EE]
  by_cases h2:k≤j∧j<k+i
  ·rw [if_pos h2,if_pos (by omega)]
  ·rw [if_neg h2,if_neg (by omega)]
theorem MG {H : Nat→Rat} {c:Rat} {G:Nat→Rat} {k i:Nat} (h:c = 0∨G i = 0):EE H c G k i = EE H c G k (i+1):=by
 funext j
 unfold EE
 by_cases h2:k≤j∧j<k+i
 ·rw [if_pos h2,if_pos (by omega)]
 ·rw [if_neg h2]
  split
  ·have e : j - k = i := by omega
   rw [e]
   rcases h with h | h
   ·rw [h,Rat.zero_mul,Rat.add_zero]
   ·rw [h,Rat.mul_zero,Rat.add_zero]
  ·rfl
theorem MH {H : Nat→Rat} {c:Rat} {G:Nat→Rat} {k:Nat} (h:c = 0):∀ i,EE H c G k i = H
 | 0=>MF H c G k
 | i+1=>by rw [← MG (.inl h),MH h i]
theorem DD {q : Rat}:q.num.sign = 0↔q = 0:=by
 rw [Int.sign_eq_zero_iff_zero,Rat.num_eq_zero]
theorem PR (g n cap m k S1 S2 S3:Nat) (H G:Nat→Rat) (c:Rat) (hH:∀ j,RSz (H j) S1) (hc:RSz c S2) (hG:∀ j,RSz (G j) S3) (hS:S1+(S2+S3)+1≤4398046511104) (hk:k+m≤n) (hn:n≤100000):Con Tryz.prog 114 [.d (sX g n cap),.d (BO (Cp c)),.d (Dp m G),.d (ex (.int .i64 (k:Nat)))] [.obj (BD [⟨g,71,flF (CA H) n⟩])] [] (fun r hp'=>r = .d Cu∧hp' = [.obj (BD [⟨g,71,flF (CA (EE H c G k m)) n⟩]),.dead,.var 71 ((Cp c).map .d)]):=by
 by_cases h0:c = 0
 ·rw [MH h0]
  have hs:c.num.sign = 0:=DD.2 h0
  refine BH Tryz.func114 rfl (Am Tryz.func114 (by kernel_rfl) (by kernel_rfl)) rfl fun s0 pv0=>?_
  rw [Tryz.ntmps114]
  apply Y1;refine Bx ?_;refine Y0<|Ac<|Y1 ?_;refine Wq AN ?_;refine Wq (Ai (EF c)) ?_;refine Wq AA ?_;apply Y0;refine Ct ?_;apply Aw;apply AR
  refine BA Eu rfl ?_ rfl
  exact ⟨rfl,rfl⟩
 ·have hs:¬ c.num.sign = 0:=fun h=>h0 (DD.1 h)
  refine BH Tryz.func114 rfl (Am Tryz.func114 (by kernel_rfl) (by kernel_rfl)) rfl fun s0 pv0=>?_
  rw [Tryz.ntmps114]
  apply Y1;refine Bx ?_;refine Y0<|Ac<|Y1 ?_;refine Wq AN ?_;refine Wq (Ai (EF c)) ?_;refine Wq At ?_;apply Y0;refine Cf ?_;refine Ys<|Y1<|Wm ?_;refine Wq (CC (F:=CA G) rfl (Ae rfl)) ?_;refine Wm<|Y0<|AWp.block ?_
  refine AT (fun mz σ=>∃ i,i≤m∧mz = m - i∧σ = ⟨[(0,.d (sX g n cap)),(3,.d (ex (.int .i64 (k:Nat)))),(5,.ptr 2 0),(13,.d (Dp m G)),(14,.d (ex (.int .i64 (m:Nat)))),(15,.d (ex (.int .i64 (i:Nat))))],[.obj (BD [⟨g,71,flF (CA (EE H c G k i)) n⟩]),.pin [(pv0,.own 0)],.var 71 ((Cp c).map .d)]⟩) ?lei ⟨0,by omega,rfl,rfl⟩ ?roundi
  case lei=>exact Ao (by exact Yd<|Yd<|Yp<|Yd<|Yd<|Yd<|FrLe.nil) (by exact HpLe.cons (OwLe.obj (by rw [MF]))<|HpLe.cons (Bi rfl)<|Yv<|HpLe.nil)
  case roundi =>
   rintro mz _ ⟨i,hi,rfl,rfl⟩
   by_cases hlti:i<m
   ·have hz : RSz (EE H c G k i (i + k)) S1 := by rw [Ti]; exact hH _
    have hst:SetAt (flF (CA (EE H c G k i)) n) ((i+k)*4) (Cp (EE H c G k i (i+k)+c*G i)) (flF (CA (EE H c G k (i+1))) n):=Uw H c G k i ▸ SetAt.flF (EZ _) (Ea _) (by omega)
    by_cases hgz:G i = 0
    ·have hgs:(G i).num.sign = 0:=DD.2 hgz
     apply Y1;refine Wq AA ?_;refine Y0<|Ac ?_;refine Ct ?_;refine Ys<|Ac<|AWp.block<|Y1<|Wm ?_;refine Wq (HW (F:=CA G) (k:=i) rfl (ao rfl) (Ae rfl) (Ae rfl) rfl hlti) ?_;refine Wq BE ?_;refine Al ?_;refine Wa ?_;refine Sf ?_;refine Y0<|Y1 ?_;refine Wq AN ?_;refine Wq (Ai (EF (G i))) ?_;refine Wq At ?_;apply Y0;refine Cf ?_;apply BJ;apply As;refine Yn<|AWp.region ?_;refine Wq Bd ?_;refine Wm ?_;apply AWl.nil
     refine ALoop.next (m - (i+1)) (by omega) ⟨i+1,by omega,rfl,rfl⟩ ?_
     exact Ao (by exact Yd<|Yd<|Yp<|Yd<|Yd<|Yd<|FrLe.nil) (by refine HpLe.cons (OwLe.obj (by rw [MG (.inr hgz)])) ?_;exact HpLe.cons (Bi rfl)<|Yv<|HpLe.nil)
    ·have hgs:¬ (G i).num.sign = 0:=fun h=>hgz (DD.1 h)
     apply Y1;refine Wq AA ?_;refine Y0<|Ac ?_;refine Ct ?_;refine Ys<|Ac<|AWp.block<|Y1<|Wm ?_;refine Wq (HW (F:=CA G) (k:=i) rfl (ao rfl) (Ae rfl) (Ae rfl) rfl hlti) ?_;refine Wq BE ?_;refine Al ?_;refine Wa ?_;refine Sf ?_;refine Y0<|Y1 ?_;refine Wq AN ?_;refine Wq (Ai (EF (G i))) ?_;refine Wq AA ?_;apply Y0;refine Ct ?_
     refine Dr [[],[],[],[(24,1),(25,2)],[],[],[],[(28,5),(29,6)],[(27,4),(30,7)],[(31,8)],[],[],[(33,10),(34,11)],[(32,9),(35,12)],[(23,0),(26,3)]] [[],[],[],[1,2],[],[],[],[5,6],[4,5,6,7],[4,5,6,7,8],[],[],[10,11],[4,5,6,7,8,9,10,11,12],[0,1,2,3,4,5,6,7,8,9,10,11,12,13]] ?_
     refine Xq Ar ?_;refine Xq Ar ?_;refine Xq Ar ?_;refine Xq Fl ?_;refine Xq Ar ?_;refine Xq Ar ?_;refine Xq Ar ?_;refine Xq Fl ?_;refine Xq (CO (k:=i+k) (ah rfl) (ah rfl) (Ae rfl) (Ae rfl) (by omega)) ?_;refine Xq (Lu (e:=⟨g,71,flF (CA (EE H c G k i)) n⟩) 0 0 (ah rfl) rfl rfl (Ae rfl) rfl (PartAt.flF (EZ _) (by omega))) ?_;refine Xq AN ?_;refine Xq AN ?_;refine Xq (Ai (Zr c (G i) S2 S3 hc (hG i) (by omega))) ?_;refine Xq (Ai (Zx (EE H c G k i (i+k)) (c*G i) S1 (S2+S3) hz (hc.mul (hG i)) hS)) ?_;refine Xq (CO (k:=i+k) (ah rfl) (ah rfl) (Ae rfl) (Ae rfl) (by omega)) ?_;refine ⟨_,rfl,?_⟩
     refine Tu (e:=⟨g,71,flF (CA (EE H c G k i)) n⟩) 0 0 (ao rfl) (ao rfl) rfl rfl (Ae rfl) rfl hst rfl ?_;apply AWl.nil;apply As;refine Yn<|AWp.region ?_;refine Wq Bd ?_;refine Wm ?_;apply AWl.nil
     refine ALoop.next (m - (i+1)) (by omega) ⟨i+1,by omega,rfl,rfl⟩ ?_
     exact Ao (by exact Yd<|Yd<|Yp<|Yd<|Yd<|Yd<|FrLe.nil) (by exact HpLe.cons (OwLe.obj rfl)<|HpLe.cons (Bi rfl)<|Yv<|HpLe.nil)
   ·obtain rfl : i = m := by omega
    apply Y1;refine Wq At ?_;refine Y0<|Ac ?_;refine Cf ?_;apply AP;apply AF;apply AG;apply AH
    refine GY Eu rfl ?_ rfl
    exact ⟨rfl,rfl⟩
theorem A1s {x : Int} (k:Nat) (hk:1≤k) (h:x.natAbs<BB ^ k):RSz ((x:Int):Rat) k:=by
 refine ⟨ET h,?_⟩
 show (Ah 1).length≤k
 exact Nat.le_trans (ET (k:=1) (by simp only [BB,Nat.pow_one];omega)) hk
theorem OE {x : Int} (h0:-1000000≤x) (h1:x≤1000000):RSz ((x:Int):Rat) 1:=A1s 1 (by omega) (by simp only [BB,Nat.pow_one];omega)
theorem OC {x : Int} (h0:-9223372036854775808≤x) (h1:x≤9223372036854775807):RSz ((x:Int):Rat) 2:=A1s 2 (by omega) (by simp only [BB,Nat.reducePow];omega)
theorem Dw {x : Int} (h0:-1000000≤x) (h1:x≤1000000):(Ah x.natAbs).length≤1:=ET (by simp only [BB,Nat.pow_one];omega)
def LC (F : Nat→Rat):Nat→Nat
 | 0=>0
 | n+1=>if F n = 0 then LC F n else n+1
theorem Ka (F : Nat→Rat):∀ n,LC F n≤n
 | 0=>Nat.le_refl 0
 | n+1=>by
  rw [LC]
  split
  ·exact Nat.le_succ_of_le (Ka F n)
  ·exact Nat.le_refl _
abbrev upO (g : Nat) (F:Nat→Rat) (n:Nat):Ow:=.obj (BD [⟨g,71,flF (CA F) n⟩])
theorem LU (F : Nat→Rat) (n N g c:Nat) (hn:n≤N) (hc:n≤c) (hN:N≤100000):Con Tryz.prog 115 [.d (sX g n c)] [upO g F N] [] (fun r hp'=>r = .d (sX g (LC F n) c)∧hp' = [upO g F N,.dead]):=by
 refine BH Tryz.func115 rfl (Am Tryz.func115 (by kernel_rfl) (by kernel_rfl)) rfl fun s0 pv0=>?_
 rw [Tryz.ntmps115]
 refine Y1<|Wa<|Y0<|Y1<|Wm ?_;refine Wq (DI (ao rfl) (Ae rfl)) ?_;refine Wa<|Y0<|Ac<|AWp.block ?_
 refine AT (fun mz σ=>∃ m,m≤n∧LC F m = LC F n∧mz = m∧σ = ⟨[(0,.d (sX g n c)),(3,.d (ex (.int .i64 (m:Nat))))],[upO g F N,.pin [(pv0,.own 0)]]⟩) ?le ⟨n,Nat.le_refl n,rfl,rfl,rfl⟩ ?round
 case le=>exact Ao (by exact Yd<|Yd<|FrLe.nil) (by exact HpLe.cons (OwLe.obj rfl)<|HpLe.cons (Bi rfl)<|HpLe.nil)
 case round =>
  rintro m _ ⟨_,hm,htr,rfl,rfl⟩
  by_cases h0:m = 0
  ·subst h0
   have hk0:(0:Nat)≤n:=Nat.zero_le n
   refine Ac<|Y1<|Wm ?_;refine Wq At ?_;refine Wm ?_;refine Ws ?_;refine Ws ?_;refine Ws ?_;refine Ws ?_;refine Ws ?_;refine Ws ?_;refine Ws ?_;refine Wq Bz ?_;apply Y0;refine Cf ?_;apply AP;apply AF;apply AG;apply AH;refine Yn<|Y1<|Wm<|Wm ?_;refine Wq (Lt (k:=0) (ao rfl) (ao rfl) (Ae rfl) (Ae rfl) hk0 hc) ?_;refine Wa<|Y0 ?_;apply Aw
   refine BA (RetsA.one rfl) rfl ?_ rfl
   exact ⟨by rw [← htr];rfl,rfl⟩
  ·have hm1 : m - 1 < N := by omega
   have hm2:m - 1<n:=by omega
   by_cases hz:F (m - 1) = 0
   ·have hs:(F (m - 1)).num.sign = 0:=DD.2 hz
    refine Ac<|Y1<|Wm ?_;refine Wq AA ?_;refine Wm ?_;refine Wg Ar ?_;refine Wg Ar ?_;refine Wg DT ?_;refine Wg (CO (k:=m - 1) (ao rfl) (ao rfl) (Ae rfl) (Ae rfl) hm2) ?_;refine Wg (Lu (e:=⟨g,71,flF (CA F) N⟩) 0 0 (ao rfl) rfl rfl (Ae rfl) rfl (PartAt.flF (EZ _) hm1)) ?_;refine Wg (Ai (EF (F (m - 1)))) ?_;refine Wg AA ?_;refine Wq AW ?_;apply Y0;refine Ct ?_;refine Ys<|AWp.block<|AWp.region<|Wm ?_;refine Wq DT ?_;refine Wa ?_;apply AWl.nil;apply As
    have htr':LC F (m - 1) = LC F n:=by
     rw [← htr]
     obtain ⟨q,rfl⟩:∃ q,m = q+1:=⟨m - 1,by omega⟩
     have hz':F q = 0:=hz
     rw [show q+1 - 1 = q from rfl,LC,if_pos hz']
    refine ALoop.next (m - 1) (by omega) ⟨m - 1,by omega,htr',rfl,rfl⟩ ?_
    exact Ao (by exact Yd<|Yd<|FrLe.nil) (by exact HpLe.cons (OwLe.obj rfl)<|HpLe.cons (Bi rfl)<|HpLe.nil)
   ·have hs:¬ (F (m - 1)).num.sign = 0:=fun h=>hz (DD.1 h)
    refine Ac<|Y1<|Wm ?_;refine Wq AA ?_;refine Wm ?_;refine Wg Ar ?_;refine Wg Ar ?_;refine Wg DT ?_;refine Wg (CO (k:=m - 1) (ao rfl) (ao rfl) (Ae rfl) (Ae rfl) hm2) ?_;refine Wg (Lu (e:=⟨g,71,flF (CA F) N⟩) 0 0 (ao rfl) rfl rfl (Ae rfl) rfl (PartAt.flF (EZ _) hm1)) ?_;refine Wg (Ai (EF (F (m - 1)))) ?_;refine Wg At ?_;refine Wq AW ?_;apply Y0;refine Cf ?_;apply AP;apply AF;apply AG;apply AH;refine Yn<|Y1<|Wm<|Wm ?_;refine Wq (Lt (k:=m) (ao rfl) (ao rfl) (Ae rfl) (Ae rfl) hm hc) ?_;refine Wa<|Y0 ?_;apply Aw
    have htr':LC F m = m:=by
     obtain ⟨q,rfl⟩:∃ q,m = q+1:=⟨m - 1,by omega⟩
     have hz':¬ F q = 0:=hz
     rw [LC,if_neg hz']
    refine BA (RetsA.one rfl) rfl ?_ rfl
    exact ⟨by rw [← htr,htr'],rfl⟩
def HJ (F G:Nat→Rat) (k:Nat):Nat→Nat→Rat
 | 0=>fun _=>q0
 | i+1=>EE (HJ F G k i) (F i) G i k
theorem Th {H G:Nat→Rat} {c:Rat} {S1 S2 S3 k i:Nat} (hH:∀ j,RSz (H j) S1) (hc:RSz c S2) (hG:∀ j,RSz (G j) S3) (j:Nat):RSz (EE H c G k i j) (S1+(S2+S3)+1):=by
 unfold EE
 split
 ·exact (hH j).add (hc.mul (hG _))
 ·exact (hH j).mono (by omega)
theorem Nq {F G:Nat→Rat} {k S2 S3:Nat} (hF:∀ j,RSz (F j) S2) (hG:∀ j,RSz (G j) S3):∀ i j,RSz (HJ F G k i j) (1+i*(S2+S3+1))
 | 0,j=>by
  rw [Nat.zero_mul]
  exact OE (x:=0) (by omega) (by omega)
 | i+1,j=>by
  have:=Th (k:=i) (i:=k) (Nq (k:=k) hF hG i) (hF i) hG j
  refine RSz.mono this ?_
  rw [Nat.succ_mul]
  omega
theorem Vn {s : GS} {g c n N:Nat} {F:Nat→Rat} (h:Hset s ⟨g,71,flF (CA F) N⟩) (hn:n≤N) (hc:n≤c) (hc':c≤9223372036854775807) {v:Value} (hv:(sX g n c).rel s v):(Dp n F).rel s v:=by
 obtain rfl:v = .slice (some ⟨g,0,none⟩) n c:=hv
 exact Zs h (EZ F) hn hc hc'
theorem VR (m k:Nat) (F G:Nat→Rat) (h:m = 0∨k = 0) (hm:m≤1000) (hk:k≤1000):Abs Tryz.prog 63 [Dp m F,Dp k G] (Dp 0 F):=by
 by_cases h0:m = 0
 ·subst h0
  refine Ab Tryz.func63 fun s0=>?_
  rw [Tryz.ntmps63]
  refine Y1<|Wa<|Y0<|Ac<|Y1<|Wm ?_;refine Wq (CC (F:=CA F) rfl (Ae rfl)) ?_;refine Wq AA ?_;refine Wm ?_;refine Ws ?_;refine Ws ?_;refine Ws ?_;refine Wq AW ?_;apply Y0;refine Ct ?_;refine Y1<|Wa<|Y0 ?_;apply Aw;apply AR
  exact BQ (Rets.of1 (ResV.tmp rfl rfl) (Eo))
 ·obtain rfl : k = 0 := by omega
  have h1:¬ ((m:Nat):Int) = 0:=by omega
  refine Ab Tryz.func63 fun s0=>?_
  rw [Tryz.ntmps63]
  refine Y1<|Wa<|Y0<|Ac<|Y1<|Wm ?_;refine Wq (CC (F:=CA F) rfl (Ae rfl)) ?_;refine Wq At ?_;refine Wm ?_;refine Wg Ar ?_;refine Wg (CC (F:=CA G) rfl (Ae rfl)) ?_;refine Wg AA ?_;refine Wq Bz ?_;apply Y0;refine Ct ?_;refine Y1<|Wa<|Y0 ?_;apply Aw;apply AR
  exact BQ (Rets.of1 (ResV.tmp rfl rfl) (Eo))
theorem VS (m k S2 S3:Nat) (F G:Nat→Rat) (hm0:0<m) (hk0:0<k) (hm:m≤1000) (hk:k≤1000) (hF:∀ j,RSz (F j) S2) (hG:∀ j,RSz (G j) S3) (hS:1+m*(S2+S3+1)≤4398046511104):Abs Tryz.prog 63 [Dp m F,Dp k G] (Dp (LC (HJ F G k m) (m+k - 1)) (HJ F G k m)):=by
 have h1:¬ ((m:Nat):Int) = 0:=by omega
 have h2:¬ ((k:Nat):Int) = 0:=by omega
 have hN:m+k - 1≤100000:=by omega
 refine Ab Tryz.func63 fun s0=>?_
 rw [Tryz.ntmps63]
 refine Y1<|Wa<|Y0<|Ac<|Y1<|Wm ?_;refine Wq (CC (F:=CA F) rfl (Ae rfl)) ?_;refine Wq At ?_;refine Wm ?_;refine Wg Ar ?_;refine Wg (CC (F:=CA G) rfl (Ae rfl)) ?_;refine Wg At ?_;refine Wq Bz ?_;apply Y0;refine Cf ?_;refine Ys<|Y1<|Wm ?_;refine Wq (CC (F:=CA F) rfl (Ae rfl)) ?_;refine Wm ?_;refine Wq (CC (F:=CA G) rfl (Ae rfl)) ?_;refine Wq Fl ?_;refine Wq DT ?_
 refine Bt [] [] (JU (m+k - 1) hN) (.inl rfl) rfl rfl (.inl ⟨rfl,rfl⟩) (by repeat (first | exact ArgsC.nil | refine ArgsC.d rfl (D.le.refl _) ?_ | refine AZ rfl rfl ?_)) (by decide) SelR.nil trivial rfl ?_
 rintro _ _ ⟨g,rfl,rfl⟩
 refine ⟨_,_,_,(by first | exact AVRen.d | exact AVRen.own rfl | exact AVRen.ptr rfl | exact AVRen.fn rfl),(by repeat (first | exact SetR.nil | (apply SetR.cons;(first | exact OwRen.dead | exact Aj | exact OwRen.obj | exact Aq | exact Ak rfl);exact rfl))),(by repeat (first | exact AppR.nil | (apply AppR.cons;(first | exact OwRen.dead | exact Aj | exact OwRen.obj | exact Aq | exact Ak rfl);exact rfl))),?_⟩
 try simp only [Bc,Bw]
 refine Wa<|Y0<|Ac<|Y1<|Wm ?_;refine Wq (CC (F:=CA F) rfl (Ae rfl)) ?_;refine Wm<|Y0<|AWp.block ?_
 refine AT (fun mz σ=>∃ i,i≤m∧mz = m - i∧σ = ⟨[(1,.d (Dp k G)),(5,.d (sX g (m+k - 1) (m+k - 1))),(23,.d (Dp m F)),(24,.d (ex (.int .i64 (m:Nat)))),(25,.d (ex (.int .i64 (i:Nat))))],[.dead,upO g (HJ F G k i) (m+k - 1)]⟩) ?lei ⟨0,by omega,rfl,rfl⟩ ?roundi
 case lei=>exact Ao (by exact Yd<|Yd<|Yd<|Yd<|Yd<|FrLe.nil) (by exact HpLe.cons (OwLe.dead)<|HpLe.cons (OwLe.obj rfl)<|HpLe.nil)
 case roundi =>
  rintro mz _ ⟨i,hi,rfl,rfl⟩
  by_cases hlti:i<m
  ·have hi:(i+1)*(S2+S3+1)≤m*(S2+S3+1):=Nat.mul_le_mul_right _ hlti
   rw [Nat.succ_mul] at hi
   apply Y1;refine Wq AA ?_;refine Y0<|Ac ?_;refine Ct ?_;refine Ys<|Ac<|AWp.block<|Y1<|Wm ?_;refine Wq (HW (F:=CA F) (k:=i) rfl (ao rfl) (Ae rfl) (Ae rfl) rfl hlti) ?_;refine Wq BE ?_;refine Al ?_;refine Wa ?_;refine Sf ?_;refine Y0<|AWp.region<|Wm ?_;refine Wq AN ?_;refine Wm<|Wm ?_
   refine Bt [1] [] (PR g (m+k - 1) (m+k - 1) k i (1+i*(S2+S3+1)) S2 S3 (HJ F G k i) G (F i) (Nq hF hG i) (hF i) hG (by omega) (by omega) hN) (by first | exact Or.inl rfl | exact Or.inr ⟨by decide,rfl,by repeat (first | exact AvoidR.nil | refine AK rfl ?_ | refine AvoidR.dead ?_ | refine AO ?_ | refine AvoidR.obj ?_ | refine AI ?_ | refine AJ rfl ?_ | refine AvoidR.pin rfl ?_)⟩) rfl rfl (by first | exact .inl ⟨rfl,rfl⟩ | exact .inr ⟨rfl,rfl⟩) (by repeat (first | exact ArgsC.nil | refine ArgsC.d rfl (D.le.refl _) ?_ | refine AZ rfl rfl ?_)) (by decide) (by repeat (first | exact SelR.nil | refine SelR.var rfl ?_ | refine SelR.obj rfl ?_ | refine Bh rfl ?_ | refine AU rfl rfl rfl ?_)) (by repeat (first | exact trivial | refine ⟨⟨_,_,rfl⟩,?_⟩)) rfl ?_
   rintro _ _ ⟨rfl,rfl⟩
   refine ⟨_,_,_,(by first | exact AVRen.d | exact AVRen.own rfl | exact AVRen.ptr rfl | exact AVRen.fn rfl),(by repeat (first | exact SetR.nil | (apply SetR.cons;(first | exact OwRen.dead | exact Aj | exact OwRen.obj | exact Aq | exact Ak rfl);exact rfl))),(by repeat (first | exact AppR.nil | (apply AppR.cons;(first | exact OwRen.dead | exact Aj | exact OwRen.obj | exact Aq | exact Ak rfl);exact rfl))),?_⟩
   try simp only [Bc,Bw]
   apply AWl.nil;apply As;refine Yn<|AWp.region ?_;refine Wq Bd ?_;refine Wm ?_;apply AWl.nil
   refine ALoop.next (m - (i+1)) (by omega) ⟨i+1,by omega,rfl,rfl⟩ ?_
   exact Ao (by exact Yd<|Yd<|Yd<|Yd<|Yd<|FrLe.nil) (by exact HpLe.cons (OwLe.dead)<|HpLe.cons (OwLe.obj rfl)<|HpLe.nil)
  ·obtain rfl : i = m := by omega
   apply Y1;refine Wq At ?_;refine Y0<|Ac ?_;refine Cf ?_;apply AP;apply AF;apply AG;apply AH;refine Yn<|Y1<|Wm ?_
   refine Bt [1] [] (LU (HJ F G k i) (i+k - 1) (i+k - 1) g (i+k - 1) (Nat.le_refl _) (Nat.le_refl _) hN) (by first | exact Or.inl rfl | exact Or.inr ⟨by decide,rfl,by repeat (first | exact AvoidR.nil | refine AK rfl ?_ | refine AvoidR.dead ?_ | refine AO ?_ | refine AvoidR.obj ?_ | refine AI ?_ | refine AJ rfl ?_ | refine AvoidR.pin rfl ?_)⟩) rfl rfl (by first | exact .inl ⟨rfl,rfl⟩ | exact .inr ⟨rfl,rfl⟩) (by repeat (first | exact ArgsC.nil | refine ArgsC.d rfl (D.le.refl _) ?_ | refine AZ rfl rfl ?_)) (by decide) (by repeat (first | exact SelR.nil | refine SelR.var rfl ?_ | refine SelR.obj rfl ?_ | refine Bh rfl ?_ | refine AU rfl rfl rfl ?_)) (by repeat (first | exact trivial | refine ⟨⟨_,_,rfl⟩,?_⟩)) rfl ?_
   rintro _ _ ⟨rfl,rfl⟩
   refine ⟨_,_,_,(by first | exact AVRen.d | exact AVRen.own rfl | exact AVRen.ptr rfl | exact AVRen.fn rfl),(by repeat (first | exact SetR.nil | (apply SetR.cons;(first | exact OwRen.dead | exact Aj | exact OwRen.obj | exact Aq | exact Ak rfl);exact rfl))),(by repeat (first | exact AppR.nil | (apply AppR.cons;(first | exact OwRen.dead | exact Aj | exact OwRen.obj | exact Aq | exact Ak rfl);exact rfl))),?_⟩
   try simp only [Bc,Bw]
   have hle:=Ka (HJ F G k i) (i+k - 1)
   refine DC (Fo (R:=Dp (LC (HJ F G k i) (i+k - 1)) (HJ F G k i)) 1 37 rfl rfl rfl rfl fun s' hs v hv=>?_) ?_
   ·exact Vn (hs _ List.mem_cons_self) hle (by omega) (by omega) hv
   refine Wa<|Y0 ?_;apply Aw
   exact Yf
def EJ (F : Nat→Rat) (n j:Nat):Rat:=if j<n then F j else q0
theorem Wo {F : Nat→Rat} {n S:Nat} (h:∀ j,RSz (F j) S) (hS:1≤S) (j:Nat):RSz (EJ F n j) S:=by
 unfold EJ
 split
 ·exact h j
 ·exact RSz.mono (OE (x:=0) (by omega) (by omega)) hS
theorem A0x (F : Nat→Rat) (n N:Nat):Te n (CA F) (CA fun _=>q0) = CA (EJ F n):=by
 funext j
 unfold Te CA EJ
 split <;> rfl
abbrev q1 : Rat:=((1:Int):Rat)
def Jb (F G:Nat→Rat) (m k:Nat):Nat→Rat:=EE (EJ F m) q1 G 0 k
theorem WP (m k S1 S3:Nat) (F G:Nat→Rat) (hm:m≤1000) (hk:k≤1000) (hF:∀ j,RSz (F j) S1) (hG:∀ j,RSz (G j) S3) (hS1:1≤S1) (hS:S1+(1+S3)+1≤4398046511104):Abs Tryz.prog 64 [Dp m F,Dp k G] (Dp (LC (Jb F G m k) (max m k)) (Jb F G m k)):=by
 have hN:max m k≤100000:=by omega
 have hmx:((max m k:Nat):Int) = max ((m:Nat):Int) (((k:Nat):Int)+0):=by omega
 have cz:=JU (max m k) hN
 rw [hmx] at cz
 have csh:Abs Tryz.prog 116 [Dp m F,BO (Cp q1),Dp k G,ex (.int .i64 0)] (Dp (LC (Jb F G m k) (max m k)) (Jb F G m k)):=by
  refine Ab Tryz.func116 fun s0=>?_
  rw [Tryz.ntmps116]
  apply Y1;refine Bx ?_;refine Wa<|Y0<|Y1<|Wm ?_;refine Wq (CC (F:=CA F) rfl (Ae rfl)) ?_;refine Wm ?_;refine Wq (CC (F:=CA G) rfl (Ae rfl)) ?_;refine Wm ?_;refine Wq Fl ?_;refine Wq Lo ?_
  refine Bt [] [] (cz) (.inl rfl) rfl rfl (.inl ⟨rfl,rfl⟩) (by repeat (first | exact ArgsC.nil | refine ArgsC.d rfl (D.le.refl _) ?_ | refine AZ rfl rfl ?_)) (by decide) SelR.nil trivial rfl ?_
  rintro _ _ ⟨g,rfl,rfl⟩
  refine ⟨_,_,_,(by first | exact AVRen.d | exact AVRen.own rfl | exact AVRen.ptr rfl | exact AVRen.fn rfl),(by repeat (first | exact SetR.nil | (apply SetR.cons;(first | exact OwRen.dead | exact Aj | exact OwRen.obj | exact Aq | exact Ak rfl);exact rfl))),(by repeat (first | exact AppR.nil | (apply AppR.cons;(first | exact OwRen.dead | exact Aj | exact OwRen.obj | exact Aq | exact Ak rfl);exact rfl))),?_⟩
  try simp only [Bc,Bw]
  refine Wa<|Y0<|Y1<|Wm<|Wm ?_;refine ZB (F:=CA F) (N:=m) (len:=max m k) (G:=CA fun _=>q0) 2 0 (ao rfl) rfl rfl rfl (EZ _) (EZ _) (by decide) (Ae rfl) (Ae rfl) rfl rfl ?_;refine Y0<|Y1<|Wm ?_;refine Wq AN ?_;refine Wm<|Wm ?_
  rw [A0x F m (max m k)]
  skip
  refine Bt [2] [] (PR g (max m k) (max m k) k 0 S1 1 S3 (EJ F m) G q1 (Wo hF hS1) (OE (x:=1) (by omega) (by omega)) hG hS (by omega) hN) (by first | exact Or.inl rfl | exact Or.inr ⟨by decide,rfl,by repeat (first | exact AvoidR.nil | refine AK rfl ?_ | refine AvoidR.dead ?_ | refine AO ?_ | refine AvoidR.obj ?_ | refine AI ?_ | refine AJ rfl ?_ | refine AvoidR.pin rfl ?_)⟩) rfl rfl (by first | exact .inl ⟨rfl,rfl⟩ | exact .inr ⟨rfl,rfl⟩) (by repeat (first | exact ArgsC.nil | refine ArgsC.d rfl (D.le.refl _) ?_ | refine AZ rfl rfl ?_)) (by decide) (by repeat (first | exact SelR.nil | refine SelR.var rfl ?_ | refine SelR.obj rfl ?_ | refine Bh rfl ?_ | refine AU rfl rfl rfl ?_)) (by repeat (first | exact trivial | refine ⟨⟨_,_,rfl⟩,?_⟩)) rfl ?_
  rintro _ _ ⟨rfl,rfl⟩
  refine ⟨_,_,_,(by first | exact AVRen.d | exact AVRen.own rfl | exact AVRen.ptr rfl | exact AVRen.fn rfl),(by repeat (first | exact SetR.nil | (apply SetR.cons;(first | exact OwRen.dead | exact Aj | exact OwRen.obj | exact Aq | exact Ak rfl);exact rfl))),(by repeat (first | exact AppR.nil | (apply AppR.cons;(first | exact OwRen.dead | exact Aj | exact OwRen.obj | exact Aq | exact Ak rfl);exact rfl))),?_⟩
  try simp only [Bc,Bw]
  refine Y0<|Y1<|Wm ?_
  refine Bt [2] [] (LU (Jb F G m k) (max m k) (max m k) g (max m k) (Nat.le_refl _) (Nat.le_refl _) hN) (by first | exact Or.inl rfl | exact Or.inr ⟨by decide,rfl,by repeat (first | exact AvoidR.nil | refine AK rfl ?_ | refine AvoidR.dead ?_ | refine AO ?_ | refine AvoidR.obj ?_ | refine AI ?_ | refine AJ rfl ?_ | refine AvoidR.pin rfl ?_)⟩) rfl rfl (by first | exact .inl ⟨rfl,rfl⟩ | exact .inr ⟨rfl,rfl⟩) (by repeat (first | exact ArgsC.nil | refine ArgsC.d rfl (D.le.refl _) ?_ | refine AZ rfl rfl ?_)) (by decide) (by repeat (first | exact SelR.nil | refine SelR.var rfl ?_ | refine SelR.obj rfl ?_ | refine Bh rfl ?_ | refine AU rfl rfl rfl ?_)) (by repeat (first | exact trivial | refine ⟨⟨_,_,rfl⟩,?_⟩)) rfl ?_
  rintro _ _ ⟨rfl,rfl⟩
  refine ⟨_,_,_,(by first | exact AVRen.d | exact AVRen.own rfl | exact AVRen.ptr rfl | exact AVRen.fn rfl),(by repeat (first | exact SetR.nil | (apply SetR.cons;(first | exact OwRen.dead | exact Aj | exact OwRen.obj | exact Aq | exact Ak rfl);exact rfl))),(by repeat (first | exact AppR.nil | (apply AppR.cons;(first | exact OwRen.dead | exact Aj | exact OwRen.obj | exact Aq | exact Ak rfl);exact rfl))),?_⟩
  try simp only [Bc,Bw]
  have hle:=Ka (Jb F G m k) (max m k)
  refine DC (Fo (R:=Dp (LC (Jb F G m k) (max m k)) (Jb F G m k)) 2 27 rfl rfl rfl rfl fun s' hs v hv=>?_) ?_
  ·exact Vn (hs _ List.mem_cons_self) hle (by omega) (by omega) hv
  refine Wa<|Y0 ?_;apply Aw
  exact Yf
 refine Ab Tryz.func64 fun s0=>?_
 rw [Tryz.ntmps64]
 refine Y1<|Wa<|Y0<|Y1<|Wm ?_;refine Wq (Ai (Jd 1 (by omega) (by omega))) ?_;refine Wm ?_;refine Wq (Ai (csh)) ?_;refine Wa<|Y0 ?_;apply Aw
 exact Yf
theorem Yu (x y:Int) (hn:(Ah x.natAbs).length≤4398046511104) (hn':(Ah y.natAbs).length≤4398046511104) (hy:0<y):Abs Tryz.prog 109 [BO (Fq x),BO (Fq y)] (BO (Cp (Rat.divInt x y))):=by
 refine BC (Am Tryz.func109 (by kernel_rfl) (by kernel_rfl)) fun s vs hok hl hv=>?_
 rw [XL hl]
 obtain ⟨x0,X0,n0,c0,e0,h0⟩:=Ed (hv 0 (by simp))
 obtain ⟨x1,X1,n1,c1,e1,h1⟩:=Ed (hv 1 (by simp))
 rw [e0,e1]
 exact (Gi x0 x1 X0 X1 n0 c0 n1 c1 x y _ h0 h1 hn hn' hy).mono fun e w' ⟨y,y',Y,Y',m,k,m',k',he,hI,hE⟩=>⟨_,he,hE,fun s' hw hok' _ _=>by subst hw;exact Gc hok' hI⟩
theorem To (x y:Int) (hn:(Ah x.natAbs).length≤4398046511104) (hn':(Ah y.natAbs).length≤4398046511104) (hy:0<y):Abs Tryz.prog 61 [BO (Fq x),BO (Fq y)] (DM [BO (Cp (Rat.divInt x y)),ex (.int .i64 0)]):=by
 have hs:y.sign = 1:=Int.sign_eq_one_of_pos hy
 have cs:=XX y
 rw [hs] at cs
 refine Ab Tryz.func61 fun s0=>?_
 rw [Tryz.ntmps61]
 apply Y1;refine Bx ?_;refine Bx ?_;refine Al ?_;refine Wa<|Y0<|Ac<|Y1 ?_;refine Wq AN ?_;refine Wq (Ai (cs)) ?_;refine Wq At ?_;apply Y0;refine Cf ?_;refine Ys<|Ac<|Y1 ?_;refine Wq AN ?_;refine Wq (Ai (cs)) ?_;refine Wq At ?_;apply Y0;refine Cf ?_;refine Ys<|Y1 ?_;refine Wq AN ?_;refine Wq AN ?_;refine Wq (Ai (Yu x y hn hn' hy)) ?_;refine Sf ?_;refine Wa<|Y0 ?_;apply Aw
 exact BQ (CW (ResV.cell rfl rfl (Ae rfl) rfl rfl rfl) (ResV.tmp rfl rfl) (Cy (D.le.refl _) (D.le.refl _)))
theorem UX (c : Rat):Abs Tryz.prog 59 [BO (Cp c)] (Dp (if c = 0 then 0 else 1) fun _=>c):=by
 by_cases h0:c = 0
 ·have hs:c.num.sign = 0:=DD.2 h0
  rw [if_pos h0]
  refine Ab Tryz.func59 fun s0=>?_
  rw [Tryz.ntmps59]
  apply Y1;refine Bx ?_;refine Wa<|Y0<|Ac<|Y1 ?_;refine Wq AN ?_;refine Wq (Ai (EF c)) ?_;refine Wq AA ?_;apply Y0;refine Ct ?_;refine Y1<|Wa<|Y0 ?_;apply Aw;apply AR
  exact BQ (Rets.of1 (ResV.tmp rfl rfl) (Eo))
 ·have hs:¬ c.num.sign = 0:=fun h=>h0 (DD.1 h)
  rw [if_neg h0]
  refine Ab Tryz.func59 fun s0=>?_
  rw [Tryz.ntmps59]
  apply Y1;refine Bx ?_;refine Wa<|Y0<|Ac<|Y1 ?_;refine Wq AN ?_;refine Wq (Ai (EF c)) ?_;refine Wq At ?_;apply Y0;refine Cf ?_;refine Ys<|Y1 ?_;refine Wq AN ?_;refine Wq (EV (ao rfl) (Ae rfl) (Ae rfl) rfl rfl rfl rfl rfl) ?_;refine Wa<|Y0 ?_;apply Aw
  exact Yf
def pG (t j:Nat) (k:Nat):Rat:=if k = 0 then Rat.divInt ((t:Int) - (j:Int)) (t:Int) else Rat.divInt 1 (t:Int)
def pT (c : Rat) (j:Nat):Nat→Nat × (Nat→Rat)
 | 0=>(if c = 0 then 0 else 1,fun _=>c)
 | i+1=>if (pT c j i).1 = 0 then (0,(pT c j i).2) else (LC (HJ (pT c j i).2 (pG (i+1) j) 2 (pT c j i).1) ((pT c j i).1+1),HJ (pT c j i).2 (pG (i+1) j) 2 (pT c j i).1)
theorem OP (c : Rat) (j:Nat):∀ i,(pT c j i).1≤i+1
 | 0=>by
  show (if c = 0 then 0 else 1)≤1
  split <;> omega
 | i+1=>by
  rw [pT]
  have:=OP c j i
  split
  ·exact Nat.zero_le _
  ·exact Nat.le_trans (Ka _ _) (by omega)
def Oh : Nat→Nat
 | 0=>2
 | i+1=>1+(i+1)*(Oh i+2)
theorem QL {i : Nat} (h:i≤7):Oh i≤100000:=by
 have:i = 0∨i = 1∨i = 2∨i = 3∨i = 4∨i = 5∨i = 6∨i = 7:=by omega
 rcases this with rfl | rfl | rfl | rfl | rfl | rfl | rfl | rfl <;> decide
theorem ZO (t j k:Nat) (ht:0<t) (ht2:t≤1000) (hj:j≤10000):RSz (pG t j k) 1:=by
 unfold pG
 split
 ·exact RSz.divInt (by omega) (Dw (by omega) (by omega)) (Dw (by omega) (by omega))
 ·exact RSz.divInt (by omega) (Dw (by omega) (by omega)) (Dw (by omega) (by omega))
theorem SD {c : Rat} {j:Nat} (hc:RSz c 2) (hj:j≤10000):∀ i,i≤900→∀ k,RSz ((pT c j i).2 k) (Oh i)
 | 0,_,k=>hc
 | i+1,hi,k=>by
  have ih:=SD hc hj i (by omega)
  have hle:=OP c j i
  rw [pT]
  split
  ·refine (ih k).mono ?_
   show Oh i≤1+(i+1)*(Oh i+2)
   have:1*(Oh i+2)≤(i+1)*(Oh i+2):=Nat.mul_le_mul_right _ (by omega)
   omega
  ·refine (Nq ih (fun k => ZO (i + 1) j k (by omega) (by omega) hj) _ k).mono ?_
   exact Nat.add_le_add_left (Nat.mul_le_mul_right (Oh i+2) hle) 1
def pH (q : Nat→Int) (Dg:Nat):Nat→Nat × (Nat→Rat)
 | 0=>(0,fun _=>q0)
 | j+1=>(LC (Jb (pH q Dg j).2 (pT ((q j:Int):Rat) j (Dg - 1)).2 (pH q Dg j).1 (pT ((q j:Int):Rat) j (Dg - 1)).1) (max (pH q Dg j).1 (pT ((q j:Int):Rat) j (Dg - 1)).1),Jb (pH q Dg j).2 (pT ((q j:Int):Rat) j (Dg - 1)).2 (pH q Dg j).1 (pT ((q j:Int):Rat) j (Dg - 1)).1)
theorem OS (q : Nat→Int) {Dg:Nat} (hD:0<Dg):∀ j,(pH q Dg j).1≤Dg
 | 0=>Nat.zero_le Dg
 | j+1=>by
  have h1:=OS q hD j
  have h2:=OP ((q j:Int):Rat) j (Dg - 1)
  rw [pH]
  exact Nat.le_trans (Ka _ _) (by omega)
theorem VI {q : Nat→Int} {Dg:Nat} (hD:Dg≤900) (hq:∀ j,RSz ((q j:Int):Rat) 2):∀ j,j≤10000→∀ k,RSz ((pH q Dg j).2 k) (1+j*(Oh (Dg - 1)+2))
 | 0,_,k=>by
  rw [Nat.zero_mul]
  exact OE (x:=0) (by omega) (by omega)
 | j+1,hj,k=>by
  have h1:=VI hD hq j (by omega)
  have h2:=SD (hq j) (show j≤10000 by omega) (Dg - 1) (by omega)
  rw [pH]
  refine (Th (fun t=>Wo h1 (by omega) t) (OE (x:=1) (by omega) (by omega)) h2 k).mono ?_
  rw [Nat.succ_mul]
  omega
theorem MQ (l : Af) (n:Int) (Dg M:Nat) (q:Nat→Int) (hD:0<Dg) (hD2:Dg≤8) (hM:M≤9000) (hq:∀ j,-9223372036854775808≤q j∧q j≤9223372036854775807) (ck:Abs Tryz.prog 46 [BW l,ex (.int .i64 n)] (ex (.int .i64 0))) (cd:Abs Tryz.prog 55 [BW l,ex (.int .i64 n)] (ex (.int .i64 (Dg:Nat)))) (cc:Abs Tryz.prog 58 [BW l,ex (.int .i64 n),ex (.int .i64 (Dg:Nat))] (nD M q)):Abs Tryz.prog 26 [BW l,ex (.int .i64 n)] (DM [Dp (pH q Dg M).1 (pH q Dg M).2,ex (.int .i64 0)]):=by
 have hDp:¬ ((Dg:Nat):Int)≤0:=by omega
 have hqs:∀ j,RSz ((q j:Int):Rat) 2:=fun j=>OC (hq j).1 (hq j).2
 have hsz:Oh (Dg - 1)≤100000:=QL (by omega)
 refine Ab Tryz.func26 fun s0=>?_
 rw [Tryz.ntmps26]
 refine Y1<|Wa<|Wa<|Y0<|Ac<|Y1<|Wm<|Wm ?_;refine Wq (Ai (ck)) ?_;refine Wa<|Y0<|Y1<|Wm ?_;refine Wq At ?_;apply Y0;refine Cf ?_;refine Ys<|Y1<|Wm<|Wm ?_;refine Wq (Ai (cd)) ?_;refine Wa<|Y0<|Ac<|Y1<|Wm ?_;refine Wq At ?_;apply Y0;refine Cf ?_;refine Ys<|Y1<|Wa<|Y0<|Ac<|Y1<|Wm<|Wm<|Wm ?_;refine Wq (Ai (cc)) ?_;refine Wq (Ex rfl (Ae rfl)) ?_;refine Wm<|Y0<|AWp.block ?_
 refine AT (fun mz σ=>∃ j,j≤M∧mz = M - j∧σ = ⟨[(7,.d (ex (.int .i64 (Dg:Nat)))),(8,.d (Dp (pH q Dg j).1 (pH q Dg j).2)),(31,.d (nD M q)),(32,.d (ex (.int .i64 (M:Nat)))),(33,.d (ex (.int .i64 (j:Nat))))],[]⟩) ?lej ⟨0,by omega,rfl,rfl⟩ ?roundj
 case lej=>exact Ao (by exact Yd<|FrLe.cons rfl (AVle.le Eo)<|Yd<|Yd<|Yd<|FrLe.nil) (by exact HpLe.nil)
 case roundj =>
  rintro mz _ ⟨j,hj,rfl,rfl⟩
  by_cases hltj:j<M
  ·have hj:=hq j
   apply Y1;refine Wq AA ?_;refine Y0<|Ac ?_;refine Ct ?_;refine Ys<|Ac<|AWp.block<|Y1<|Wm ?_;refine Wq (Lv (k:=j) rfl (ao rfl) (Ae rfl) (Ae rfl) rfl hltj) ?_;refine Wq DV ?_;refine Wa<|Wa<|Y0<|Y1<|Wm ?_;refine Wq (Ai (Jd (q j) hj.1 hj.2)) ?_;refine Wq (Ai (UX ((q j:Int):Rat))) ?_;refine Wa<|Y0<|Ac<|Y1<|Wa<|Y0<|AWp.block ?_
   refine AT (fun mz σ=>∃ i,i≤Dg - 1∧mz = Dg - 1 - i∧σ = ⟨[(7,.d (ex (.int .i64 (Dg:Nat)))),(8,.d (Dp (pH q Dg j).1 (pH q Dg j).2)),(9,.d (ex (.int .i64 (j:Nat)))),(11,.d (Dp (pT ((q j:Int):Rat) j i).1 (pT ((q j:Int):Rat) j i).2)),(12,.d (ex (.int .i64 ((i+1:Nat):Int)))),(31,.d (nD M q)),(32,.d (ex (.int .i64 (M:Nat)))),(33,.d (ex (.int .i64 (j:Nat))))],[]⟩) ?lei ⟨0,by omega,rfl,rfl⟩ ?roundi
   case lei=>exact Ao (by exact Yd<|Yd<|Yd<|Yd<|Yd<|Yd<|Yd<|Yd<|FrLe.nil) (by exact HpLe.nil)
   case roundi =>
    rintro mz _ ⟨i,hi,rfl,rfl⟩
    by_cases hlti:i<Dg - 1
    ·have c1 : Abs Tryz.prog 61 [BO (Fq (((i + 1 : Nat) : Int) - (j : Int))), BO (Fq ((i + 1 : Nat) : Int))] (DM [BO (Cp (pG (i + 1) j 0)), ex (.int .i64 0)]) := To _ _ (Nat.le_trans (Dw (by omega) (by omega)) (by decide)) (Nat.le_trans (Dw (by omega) (by omega)) (by decide)) (by omega)
     have c2:Abs Tryz.prog 61 [BO (Fq 1),BO (Fq ((i+1:Nat):Int))] (DM [BO (Cp (pG (i+1) j 1)),ex (.int .i64 0)]):=To _ _ (Nat.le_trans (Dw (by omega) (by omega)) (by decide)) (Nat.le_trans (Dw (by omega) (by omega)) (by decide)) (by omega)
     have c3:Abs Tryz.prog 63 [Dp (pT ((q j:Int):Rat) j i).1 (pT ((q j:Int):Rat) j i).2,slD 71 4 [Cp (pG (i+1) j 0),Cp (pG (i+1) j 1)]] (Dp (pT ((q j:Int):Rat) j (i+1)).1 (pT ((q j:Int):Rat) j (i+1)).2):=by
      have hle:=OP ((q j:Int):Rat) j i
      by_cases hz:(pT ((q j:Int):Rat) j i).1 = 0
      ·rw [pT,if_pos hz]
       exact VR _ 2 _ (pG (i+1) j) (.inl hz) (by omega) (by omega)
      ·rw [pT,if_neg hz]
       refine VS _ 2 (Oh i) 1 _ (pG (i+1) j) (by omega) (by omega) (by omega) (by omega) (SD (hqs j) (by omega) i (by omega)) (fun k=>ZO (i+1) j k (by omega) (by omega) (by omega)) ?_
       have h1:Oh i≤100000:=QL (by omega)
       have h2:(pT ((q j:Int):Rat) j i).1*(Oh i+1+1)≤8*100002:=Nat.mul_le_mul (by omega) (by omega)
       omega
     refine Ac<|Y1<|Wm<|Wm ?_;refine Wq AA ?_;apply Y0;refine Ct ?_;refine Ys<|Ac<|AWp.block<|Y1<|Wm<|Wm ?_;refine Wq Gr ?_;refine Wq (Ai (Nn (((i+1:Nat):Int) - (j:Int)) (by omega) (by omega))) ?_;refine Wm ?_;refine Wq (Ai (Nn ((i+1:Nat):Int) (by omega) (by omega))) ?_;refine Wq (Ai (c1)) ?_;refine Wm ?_;refine Wq BP ?_;refine Wq BP ?_;refine Al ?_;refine Sf ?_;refine Wa<|Y0<|Y1 ?_;refine Wq (Ai (Nn 1 (by omega) (by omega))) ?_;refine Wm ?_;refine Wq (Ai (Nn ((i+1:Nat):Int) (by omega) (by omega))) ?_;refine Wq (Ai (c2)) ?_;refine Wm ?_;refine Wq BP ?_;refine Wq BP ?_;refine Al ?_;refine Sf ?_;refine Wa<|Y0<|AWp.region<|Wm ?_;refine Wq AN ?_;refine Wq AN ?_;(refine DB rfl rfl ?_;(refine DS (Ae rfl) (Ae rfl) rfl rfl rfl rfl rfl ?_;(repeat ((first | refine ⟨_,BL (ao rfl),?_⟩ | refine ⟨_,Po rfl,?_⟩);refine ⟨_,rfl,?_⟩));refine ⟨_,rfl,?_⟩));refine Wq (Ai (c3)) ?_;refine Wa ?_;apply AWl.nil;apply As;refine Yn<|AWp.region<|Wm ?_;refine Wq Bd ?_;refine Wa ?_;apply AWl.nil
     refine ALoop.next (Dg - 1 - (i+1)) (by omega) ⟨i+1,by omega,rfl,rfl⟩ ?_
     exact Ao (by exact Yd<|Yd<|Yd<|Yd<|Yd<|Yd<|Yd<|Yd<|FrLe.nil) (by exact HpLe.nil)
    ·obtain rfl : i = Dg - 1 := by omega
     have c4:Abs Tryz.prog 64 [Dp (pH q Dg j).1 (pH q Dg j).2,Dp (pT ((q j:Int):Rat) j (Dg - 1)).1 (pT ((q j:Int):Rat) j (Dg - 1)).2] (Dp (pH q Dg (j+1)).1 (pH q Dg (j+1)).2):=by
      have h1:=OS q hD j
      have h2:=OP ((q j:Int):Rat) j (Dg - 1)
      have h3:j*(Oh (Dg - 1)+2)≤9000*100002:=Nat.mul_le_mul (by omega) (by omega)
      exact WP _ _ (1+j*(Oh (Dg - 1)+2)) (Oh (Dg - 1)) _ _ (by omega) (by omega) (VI (by omega) hqs j (by omega)) (SD (hqs j) (by omega) _ (by omega)) (by omega) (by omega)
     refine Ac<|Y1<|Wm<|Wm ?_;refine Wq At ?_;apply Y0;refine Cf ?_;apply AP;apply AF;apply AG;apply AH;refine Yn<|AWp.region<|Wm<|Wm ?_;refine Wq (Ai (c4)) ?_;refine Wa ?_;apply AWl.nil;apply As;refine Yn<|AWp.region ?_;refine Wq Bd ?_;refine Wm ?_;apply AWl.nil
     refine ALoop.next (M - (j+1)) (by omega) ⟨j+1,by omega,rfl,rfl⟩ ?_
     exact Ao (by exact Yd<|Yd<|Yd<|Yd<|Yd<|FrLe.nil) (by exact HpLe.nil)
  ·obtain rfl : j = M := by omega
   apply Y1;refine Wq At ?_;refine Y0<|Ac ?_;refine Cf ?_;apply AP;apply AF;apply AG;apply AH;refine Yn<|Y1<|Wm<|Wa<|Wa<|Y0 ?_;apply Aw
   exact BQ (CW (ResV.tmp rfl rfl) (ResV.tmp rfl rfl) (Cy (D.le.refl _) (D.le.refl _)))
end Go.Proofs.YtialdhnijjnpaaaGreat
