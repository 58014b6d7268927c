/- Part 21 of the proof of hilbertMatchesReference_holds. No condition. -/
import Derived.Laws.CopyOwn
import Derived.Test.YtialdhnijjnpaaaGreatQg2
import Derived.Test.YtialdhnijjnpaaaGreatQg18
import Derived.Test.YtialdhnijjnpaaaGreatQg20
set_option linter.unusedSimpArgs false
set_option linter.unusedVariables false
set_option maxRecDepth 100000
namespace Go.Proofs.YtialdhnijjnpaaaGreat
open Go.RowKit
def cpF(n:Nat)(f f0:Nat->Int)(j:Nat):Int:=if j<n then f j else f0 j
section
variable {P:Program} {s0:An} {n:Nat} {ops:Array Oper} {Q:Exit->AS->Prop} {rest:List Oper} {fr:List (Nat×AV)} {hp hp':List Ow} {ty:TypeId} {ps:String} {af:Array Edge}
theorem A2p{t t2 T m b bytes len cap N g e0:Nat}{z z':Value}{d:TypeDesc}{x y:Operand}{L:List HE}{T0:TypeId}{f f0:Nat->Int}(id i:Nat)(hx:AS.arg ⟨fr,hp⟩ x = .d (sX g len cap))(hy:Ed hp (AS.arg ⟨fr,hp⟩ y)=some (nD N f))(hh:hp[id]? = some (.obj (By L)))(hi:L[i]? = some ⟨g,T0,nC f0 len⟩)(ht:Tab P t (.slice T) m b z')(hT:Tab P T d 1 bytes z)(hs:Do hp id (.obj (By (L.set i ⟨g,T0,nC (cpF N f f0) len⟩)))=some hp')
  (hd:Nat.blt e0 n=true) (h:AWl P s0 n ops Q rest ⟨(e0,.d Cp)::fr,hp'⟩):AWl P s0 n ops Q (⟨some e0,.call { callee:=.builtin .copy,args:=#[x,y],argTypes:=#[t,t2] },ty,ps,af,none⟩::rest) ⟨fr,hp⟩:=by
 refine AWl.step rfl λs ρ a hst K hK=>?_
 have hx':=hst.arg x
 rw [hx] at hx'
 have e1:a.eval x = .slice (some ⟨g,0,none⟩) len cap:=hx'
 obtain ⟨A,c,e2,h3,h4,h5⟩:=BW hst.hp (hst.arg y) hy
 rw [List.length_map,List.length_range] at e2 h3 h5
 obtain ⟨g1,-⟩:=Ec (hst.hp id _ hh)
 obtain ⟨hT1,hS,cs,h6,h7,h8⟩:=g1 _ (List.mem_of_getElem? hi)
 simp only [Hd] at h7 h8
 obtain ⟨ii,hii,hz0,hsize,hby⟩:=hT.info
 have hinf:(P.info? T).map (·.size)=some 1:=by rw [hii,Option.map_some,hsize]
 obtain ⟨q,hq⟩:∃q,q=Nat.min N len:=⟨_,rfl⟩
 have hqN:q<=N:=by rw [hq];exact Nat.min_le_left _ _
 have hql:q<=len:=by rw [hq];exact Nat.min_le_right _ _
 have hql':∀j,j<len->j<N->j<q:=λj h1 h2=>by rw [hq];exact Nat.lt_min.2 ⟨h2,h1⟩
 obtain ⟨vs,hvl,hrun,hvs⟩:∃vs:List Value,vs.length=q/\(execOp a.eval ⟨some e0,.call { callee:=.builtin .copy,args:=#[x,y],argTypes:=#[t,t2] },ty,ps,af,none⟩).run P s.w = .ok (.value (goInt q)) (s.w.setRow g (cs.toList.take 0++vs++cs.toList.drop (0+vs.length)).toArray)/\∀j,j<q->∃u,vs[j]? = some u/\u.oneCell'=true/\u = .int .i64 (f j):=by
  by_cases h0:q=0
  .refine ⟨[], h0.symm, ?_, λj hj=>absurd hj (by omega)⟩
   have hrun:=run_copy_none (P:=P) s.w t t2 ty T (some ⟨g,0,none⟩) A len cap N c ht.und hinf (hq▸h0)
   have he:s.w.setRow g (cs.toList.take 0++[]++cs.toList.drop (0+([]:List Value).length)).toArray=s.w:=by
    simp only [List.take_zero,List.nil_append,List.length_nil,List.drop_zero,Array.toArray_toList]
    exact setRow_self s.w g cs T0 (0,0) h6
   rw [he,h0]
   simp [execOp,resolve,invoke,builtin,e1,e2,hrun]
  .obtain ⟨g2, p, rfl, h9⟩:=h5 (by omega)
   have hcell:∀j,j<q->∃u,s.w.cell? ⟨g2,p+j,none⟩=some u/\u.oneCell'=true/\u = .int .i64 (f j):=λj hj=>by
    obtain ⟨h10,h11⟩:=h9 j (by omega)
    have er:((List.range N).map λi=>[ex (.int .i64 (f i))]).getD j []=[ex (.int .i64 (f j))]:=by
     have:j<N:=by omega
     simp [this]
    rw [er] at h11
    obtain ⟨u,h12,h13,h14⟩:=h11.cell (k:=0) (by simp)
    rw [Nat.mul_one,Nat.add_zero] at h12
    exact ⟨u,h12,h13,h14⟩
   have hvl:((List.range q).map λj=>Value.int .i64 (f j)).length=q:=by simp
   have hva:∀j u,((List.range q).map λj=>Value.int .i64 (f j))[j]? = some u->j<q/\u = .int .i64 (f j):=λj u hu=>by
    rw [List.getElem?_map] at hu
    by_cases hj:j<q
    .rw [List.getElem?_range hj] at hu
     cases hu
     exact ⟨hj,rfl⟩
    .rw [List.getElem?_eq_none (by simpa using hj)] at hu
     cases hu
   refine ⟨(List.range q).map λj=>.int .i64 (f j),hvl,?_,λj hj=>⟨.int .i64 (f j),by simp [hj],rfl,rfl⟩⟩
   have hrun := run_copy_row (P := P) s.w t t2 ty T g 0 len cap ⟨g2, p, none⟩ N c cs T0 ((List.range q).map fun j => .int .i64 (f j)) ht.und hinf h6 (by rw [hvl, hq]) (fun j v hv => by
    obtain ⟨hj,rfl⟩:=hva j v hv
    obtain ⟨u,h12,_,rfl⟩:=hcell j hj
    rw [Addr.add_lit]
    exact h12) (by rw [hvl];omega) (λv hv=>by
    obtain ⟨j,hj⟩:=List.mem_iff_getElem?.1 hv
    obtain ⟨_,rfl⟩:=hva j v hj
    rfl)
   rw [hvl] at hrun
   rw [hvl]
   simp [execOp,resolve,invoke,builtin,e1,e2,hrun]
 unfold Oper.wp
 rw [hrun]
 have hfin := FF hst hh hi (W := s.w.setRow g (cs.toList.take 0 ++ vs ++ cs.toList.drop (0 + vs.length)).toArray) (cs' := (cs.toList.take 0 ++ vs ++ cs.toList.drop (0 + vs.length)).toArray) (ds' := nC (cpF N f f0) len) rfl rfl rfl (by simp [World.setRow]) (fun b hb => setRow_other s.w g b _ hb) (setRow_heap s.w g cs _ T0 _ h6)
  (by rw [Hd]; simp; omega) (fun k hk => by
   rw [Hd] at hk
   rw [HH (by rw [hvl];omega),UY hk]
   simp only [Nat.zero_le,true_and,Nat.zero_add,Nat.sub_zero,hvl]
   by_cases hr:k<q
   .rw [if_pos hr]
    obtain ⟨u,y1,y2,y3⟩:=hvs k hr
    refine ⟨u,y1,y2,?_⟩
    rw [cpF,if_pos (by omega)]
    exact y3
   .rw [if_neg hr]
    obtain ⟨u,y1,y2,y3⟩:=h8 k hk
    refine ⟨u,y1,y2,?_⟩
    rw [UY hk] at y3
    rw [cpF,if_neg (λh=>hr (hql' k hk h))]
    exact y3) hs
 exact hK _ _ _ h ⟨_,ρ,rfl,hfin.put (GS.Le.refl _) (dst:=some e0) (λd hd'=>by cases hd';simpa [Nat.blt_eq] using hd) (r:=.d Cp) trivial⟩
end
def flF(F:Nat->List D)(n:Nat):List D:=((List.range n).map F).flatten
def Yg{α:Type}(F:Nat->α)(k:Nat)(r:α):Nat->α:=λj=>if j=k then r else F j
theorem QU(F:Nat->List D)(n:Nat):flF F (n+1)=flF F n++F n:=by
 simp [flF,List.range_succ]
theorem Ch{F:Nat->List D}{sz:Nat}(h:∀j,(F j).length=sz):∀n,(flF F n).length=n*sz
 | 0=>by rw [Nat.zero_mul];rfl
 | n+1=>by rw [QU,List.length_append,Ch h n,h n,Nat.succ_mul]
theorem Gw{F:Nat->List D}{sz:Nat}(h:∀j,(F j).length=sz):∀{n j q:Nat},j<n->q<sz->(flF F n)[j*sz+q]? = (F j)[q]?
 | n+1,j,q,hj,hq=>by
  rw [QU]
  by_cases h1:j<n
  .have h2:(j+1)*sz<=n*sz:=Nat.mul_le_mul_right sz h1
   rw [Nat.succ_mul] at h2
   rw [List.getElem?_append_left (by rw [Ch h];omega)]
   exact Gw h h1 hq
  .obtain rfl:j=n:=by omega
   rw [List.getElem?_append_right (by rw [Ch h];omega),Ch h]
   congr 1
   omega
theorem Pb{n sz i:Nat}(hi:i<n*sz):i/sz<n/\i%sz<sz/\i=i/sz*sz+i%sz:=by
 have h0:0<sz:=by
  rcases Nat.eq_zero_or_pos sz with h | h
  .subst h;rw [Nat.mul_zero] at hi;omega
  .exact h
 exact ⟨(Nat.div_lt_iff_lt_mul h0).2 hi,Nat.mod_lt _ h0,by rw [Nat.mul_comm];exact (Nat.div_add_mod i sz).symm⟩
theorem WQ{F G:Nat->List D}{n:Nat}(h:∀j,j<n->F j=G j):flF F n=flF G n:=by
 unfold flF
 rw [List.map_congr_left λj hj=>h j (List.mem_range.1 hj)]
theorem PartAt.flF{F:Nat->List D}{sz n j:Nat}(h:∀j,(F j).length=sz)(hj:j<n):PartAt (flF F n) (j*sz) sz (F j):=by
 have h2:(j+1)*sz<=n*sz:=Nat.mul_le_mul_right sz hj
 rw [Nat.succ_mul] at h2
 refine ⟨by rw [Ch h];exact h2,?_⟩
 apply List.ext_getElem?
 intro q
 rw [List.getElem?_take]
 split
 .rename_i hq
  rw [List.getElem?_drop]
  exact Gw h hj hq
 .rename_i hq
  rw [List.getElem?_eq_none (by rw [h];omega)]
theorem Un{F:Nat->List D}{sz k:Nat}{r:List D}(h:∀j,(F j).length=sz)(hr:r.length=sz)(j:Nat):(Yg F k r j).length=sz:=by
 unfold Yg
 split
 .exact hr
 .exact h j
theorem SetAt.flF{F:Nat->List D}{sz n j:Nat}{r:List D}(h:∀j,(F j).length=sz)(hr:r.length=sz)(hj:j<n):SetAt (flF F n) (j*sz) r (flF (Yg F j r) n):=by
 have h2:(j+1)*sz<=n*sz:=Nat.mul_le_mul_right sz hj
 rw [Nat.succ_mul] at h2
 have hle:j*sz+r.length<=(Go.Proofs.YtialdhnijjnpaaaGreat.flF F n).length:=by rw [Ch h,hr];exact h2
 refine ⟨hle,?_⟩
 apply List.ext_getElem?
 intro i
 by_cases hi:i<n*sz
 .obtain ⟨h3,h4,h5⟩:=Pb hi
  have e2:(Go.Proofs.YtialdhnijjnpaaaGreat.flF (Yg F j r) n)[i]? = (Yg F j r (i/sz))[i%sz]?:=by
   conv=>lhs;rw [h5]
   exact Gw (Un h hr) h3 h4
  have e3:(Go.Proofs.YtialdhnijjnpaaaGreat.flF F n)[i]? = (F (i/sz))[i%sz]?:=by
   conv=>lhs;rw [h5]
   exact Gw h h3 h4
  rw [e2]
  unfold Nf
  have hlt:((Go.Proofs.YtialdhnijjnpaaaGreat.flF F n).take (j*sz)).length=j*sz:=by rw [List.length_take,Ch h];omega
  by_cases h6:i<j*sz
  .rw [List.getElem?_append_left (by rw [hlt]; exact h6), List.getElem?_take, if_pos h6, e3]
   have:i/sz≠j:=λe=>by rw [e] at h5;omega
   rw [Yg,if_neg this]
  .rw [List.getElem?_append_right (by rw [hlt]; omega), hlt]
   by_cases h7:i<j*sz+sz
   .have e4:i/sz=j:=Nat.div_eq_of_lt_le (by omega) (by rw [Nat.succ_mul]; exact h7)
    rw [List.getElem?_append_left (by rw [hr];omega),Yg,if_pos e4]
    congr 1
    rw [e4] at h5
    omega
   .rw [List.getElem?_append_right (by rw [hr]; omega), List.getElem?_drop, hr, Yg, if_neg (λe=>by rw [e] at h5; omega), <-e3]
    congr 1
    omega
 .rw [List.getElem?_eq_none (by rw [Cn hle,Ch h];omega),List.getElem?_eq_none (by rw [Ch (Un h hr)];omega)]
def rD(T sz:Nat)(F:Nat->List D)(n:Nat):D:=slD T sz ((List.range n).map F)
theorem A2i{s:GS}{b T sz n N cap:Nat}{F:Nat->List D}(h:Hset s ⟨b,T,flF F N⟩)(hF:∀j,(F j).length=sz)(hn:n<=N)(h1:n<=cap)(h2:cap<=9223372036854775807):(rD T sz F n).rel s (.slice (some ⟨b,0,none⟩) n cap):=by
 have hr:∀k,k<n->((List.range n).map F).getD k []=F k:=λk hk=>by simp [hk]
 refine h.sl rfl (by simp) h1 h2 (λk hk=>?_) λk j hk hj=>?_
 .rw [hr k (by simpa using hk)]
  exact hF k
 .have hk:k<n:=by simpa using hk
  have h3:(k+1)*sz<=N*sz:=Nat.mul_le_mul_right sz (by omega)
  rw [Nat.succ_mul] at h3
  rw [hr k hk]
  refine ⟨by show k*sz+j<(flF F N).length;rw [Ch hF];omega,?_⟩
  show BG (flF F N) (k*sz+j)=_
  unfold BG
  rw [List.getD_eq_getElem?_getD,List.getD_eq_getElem?_getD,Gw hF (by omega) hj]
theorem A1N{r:List D}{n i:Nat}(hi:i<n*r.length):BG (flF (λ_=>r) n) i=BG r (i%r.length):=by
 obtain ⟨h3,h4,h5⟩:=Pb hi
 unfold BG
 rw [List.getD_eq_getElem?_getD,List.getD_eq_getElem?_getD]
 congr 1
 conv=>lhs;rw [h5]
 exact Gw (F:=λ_=>r) (λ_=>rfl) h3 h4
section
variable {P:Program} {s0:An} {n:Nat} {ops:Array Oper} {Q:Exit->AS->Prop} {rest:List Oper} {fr:List (Nat×AV)} {hp hp':List Ow} {ty:TypeId} {ps:String} {af:Array Edge}
theorem A2m{t T m b bytes c k e sz:Nat}{z z':Value}{d:TypeDesc}{x y:Operand}{hpf:Nat->List Ow}(hx:AS.arg ⟨fr,hp⟩ x = .d (ex (.int .i64 (c:Nat))))(hy:AS.arg ⟨fr,hp⟩ y = .d (ex (.int .i64 (c:Nat))))(ht:Tab P t (.slice T) m b z')(hT:Tab P T d sz bytes z)(hz:z.cells.size=sz)(h0:0<sz)(hz1:one1 z.cells.toList=true)(hc:c<=1000000)(hbytes:Nat.ble bytes 65536=true)(hT32:Nat.beq T 136=false)(hd:Nat.blt e n=true)(hk:Fk hp=some k)(hs:∀g,Dt hp (.obj (By [⟨g,T,flF (λ_=>z.cells.toList.map ex) c⟩]))=some (hpf g))
  (h:∀g,AWl P s0 n ops Q rest ⟨(e,.d (sX g c c))::fr,hpf g⟩):AWl P s0 n ops Q (⟨some e,.makeSlice t x y,ty,ps,af,none⟩::rest) ⟨fr,hp⟩:=by
 refine AWl.step rfl λs ρ a hst K hK=>?_
 have e1:a.eval x = .int .i64 (c:Nat):=St.exD hx ⟨s,ρ,rfl,hst⟩
 have e2:a.eval y = .int .i64 (c:Nat):=St.exD hy ⟨s,ρ,rfl,hst⟩
 obtain ⟨i,hi,hz0,hsize,hby⟩:=hT.info
 have hbytes:=Nat.le_of_ble_eq_true hbytes
 have hT32':=Nat.ne_of_beq_eq_false hT32
 obtain rfl:=Ea hk
 have wc:IntKind.i64.wrap ((c:Nat):Int)=c:=IntWalk.i64_in _ (by omega)
 have hprod:bytes*c<=65536*1000000:=Nat.mul_le_mul hbytes hc
 have hprod':((bytes:Int)*(c:Int))<=281474976710656:=by
  have:((bytes*c:Nat):Int)<=((65536*1000000:Nat):Int):=Int.ofNat_le.2 hprod
  rw [Int.natCast_mul] at this
  omega
 have hroom:c*bytes<=roomBytes:=by
  rw [Nat.mul_comm]
  have:roomBytes=140737488355328:=rfl
  omega
 obtain ⟨arr,harr,harr2,hrun⟩:∃arr:Array Value,arr.size=c*sz/\(∀k,k<c*sz->arr[k]? = z.cells[k%sz]?)/\(execOp a.eval ⟨some e,.makeSlice t x y,ty,ps,af,none⟩).run P s.w = .ok (.value (.slice (some ⟨s.w.heap.size,0,none⟩) c c)) (s.w.alloc (.cells arr T)):=by
  have hn:∀arr,(newRow T arr).run P s.w = .ok ⟨s.w.heap.size,0,none⟩ (s.w.alloc (.cells arr T)):=λ_=>rfl
  have h281:¬(281474976710656<(bytes:Int)*(c:Int)):=by omega
  have hroom':¬(roomBytes<c*bytes):=by omega
  have hkn:¬((c:Int)<0):=by omega
  by_cases hk0:c=0
  .subst hk0
   refine ⟨(Array.range (0*sz)).map (λj=>(#[]:Array Value)[j%0]!),by simp,λk hk=>by rw [Nat.zero_mul] at hk;omega,?_⟩
   simp [execOp,e1,e2,Instr.makeSlice,run_underlying ht.und,asInt,asIntOf,typeInfo,hi,hby,askRoom,hT.run_size,hn,sizeOf,hsize,show IntKind.i64.wrap 0=0 from rfl]
  .have hnz:¬(c*sz=0):=λh=>by
    rcases Nat.mul_eq_zero.1 h with h | h<;>omega
   have hsz0:¬(sz=0):=by omega
   refine ⟨(Array.range (c * sz)).map (fun j => z.cells[j % z.cells.size]!), by simp, fun k hk => by
    have:k%sz<z.cells.size:=by rw [hz];exact Nat.mod_lt _ h0
    simp [hk,hz,getElem!_def,Array.getElem?_eq_getElem this],?_⟩
   simp [execOp,e1,e2,Instr.makeSlice,run_underlying ht.und,asInt,asIntOf,typeInfo,hi,hby,wc,h281,askRoom,hroom',sizeOf,hsize,hnz,hk0,hsz0,zeroValue,hz0,hn,hkn]
 unfold Oper.wp
 rw [hrun]
 have hrl:(z.cells.toList.map ex).length=sz:=by rw [List.length_map,Array.length_toList,hz]
 have hfin := hst.new (s.le_mk' arr T 0 hT32') (dst := some e) (fun d hd' => by cases hd'; simpa [Nat.blt_eq] using hd) (v := .slice (some ⟨s.w.heap.size, 0, none⟩) c c) (u := undef) (r := .d (sX s.w.heap.size c c)) (ow := .obj (By [⟨s.w.heap.size, T, flF (fun _ => z.cells.toList.map ex) c⟩])) rfl
  (by
   refine ⟨λx hx=>?_,by simp⟩
   rw [List.mem_singleton.1 hx]
   refine ⟨hT32',λk hk=>?_,arr,heap_alloc_new s.w _,by rw [Ch (λ_=>hrl),harr];exact Nat.le_refl _,λk hk=>?_⟩
   .exact absurd (hst.ok.lt _ _ hk) (Nat.lt_irrefl _)
   .have hk:k<c*sz:=by rw [Ch (λ_=>hrl)] at hk; exact hk
    have hm:k%sz<z.cells.size:=by rw [hz];exact Nat.mod_lt _ h0
    refine ⟨z.cells[k%sz],(harr2 k hk).trans (Array.getElem?_eq_getElem hm),List.all_eq_true.1 hz1 z.cells[k%sz] (by simp),?_⟩
    rw [A1N (by rw [hrl];exact hk),hrl]
    have:BG (z.cells.toList.map ex) (k%sz)=ex z.cells[k%sz]:=by
     unfold BG
     rw [List.getD_eq_getElem?_getD,List.getElem?_map,Array.getElem?_toList,Array.getElem?_eq_getElem hm]
     rfl
    rw [this]
    exact rfl)
  (λb hb=>by
   obtain ⟨x,hx,rfl⟩:=hb
   rw [List.mem_singleton.1 hx]
   exact Nat.le_refl _)
 have hg:=h s.w.heap.size
 rw [CI (hs s.w.heap.size)] at hg
 exact hK _ _ _ hg ⟨_,_,rfl,hfin⟩
theorem Wo(P:Program)(w:World)(dT sT ty elem:TypeId)(g dLen dCap sz:Nat)(a:Addr)(sLen sCap:Nat)(cur:Array Value)(t:TypeId)(cs:List Value)
  (hu:P.underlying dT=some (.slice elem)) (hs:(P.info? elem).map (·.size)=some sz)
  (hg:w.heap[g]? = some (.cells cur t (0,0))) (hn:cs.length=Nat.min sLen dLen*sz)
  (hsrc:∀j v,cs[j]? = some v->w.cell? (a.add j)=some v) (hfit:0+cs.length<=cur.size) (h1:∀v∈cs,v.oneCell'=true) :
  (Builtin.copy_ #[dT,sT] ty #[.slice (some ⟨g,0,none⟩) dLen dCap,.slice (some a) sLen sCap]).run P w =
   .ok (goInt (Nat.min sLen dLen)) (w.setRow g (cur.toList.take 0++cs++cur.toList.drop (0+cs.length)).toArray):=by
 have hl:=run_loadCells_list (P:=P) w a cs hsrc
 rw [hn] at hl
 have hst:=run_storeCells_at P g 0 t cs 0 cur w hg (by simpa using hfit) h1
 cases hq:P.info? elem with
 | none=>simp [hq] at hs
 | some i=>
  have hi:i.size=sz:=by simpa [hq] using hs
  simp [Builtin.copy_,run_underlying hu,Builtin.lenOf,Builtin.firstCells,sizeOf,typeInfo,hq,hi,hl,hst]
theorem Lx(P:Program)(w:World)(dT sT ty elem:TypeId)(d a:Option Addr)(dLen dCap sLen sCap sz:Nat)(hu:P.underlying dT=some (.slice elem))(hs:(P.info? elem).map (·.size)=some sz)(hn:Nat.min sLen dLen=0) :
  (Builtin.copy_ #[dT,sT] ty #[.slice d dLen dCap,.slice a sLen sCap]).run P w = .ok (goInt 0) w:=by
 cases hq:P.info? elem with
 | none=>simp [hq] at hs
 | some i=>
  have hl:∀(x:Addr),(loadCells x 0).run P w = .ok #[] w:=λx=>by simpa using run_loadCells_list (P:=P) w x [] (by simp)
  cases d<;>cases a<;>simp [Builtin.copy_,run_underlying hu,Builtin.lenOf,Builtin.firstCells,sizeOf,typeInfo,hq,hn,storeCells,hl]
def VB(n:Nat)(F G:Nat->List D)(j:Nat):List D:=if j<n then F j else G j
theorem A2o{t t2 T m b bytes len cap N g e0 sz T2:Nat}{z z':Value}{d:TypeDesc}{x y:Operand}{L:List HE}{T0:TypeId}{F G:Nat->List D}(id i:Nat)(hx:AS.arg ⟨fr,hp⟩ x = .d (sX g len cap))(hy:Ed hp (AS.arg ⟨fr,hp⟩ y)=some (rD T2 sz F N))(hh:hp[id]? = some (.obj (By L)))(hi:L[i]? = some ⟨g,T0,flF G len⟩)(hG:∀j,(G j).length=sz)(hF:∀j,(F j).length=sz)(h00:0<sz)(ht:Tab P t (.slice T) m b z')(hT:Tab P T d sz bytes z)(hs:Do hp id (.obj (By (L.set i ⟨g,T0,flF (VB N F G) len⟩)))=some hp')
  (hd:Nat.blt e0 n=true) (h:AWl P s0 n ops Q rest ⟨(e0,.d Cp)::fr,hp'⟩):AWl P s0 n ops Q (⟨some e0,.call { callee:=.builtin .copy,args:=#[x,y],argTypes:=#[t,t2] },ty,ps,af,none⟩::rest) ⟨fr,hp⟩:=by
 refine AWl.step rfl λs ρ a hst K hK=>?_
 have hx':=hst.arg x
 rw [hx] at hx'
 have e1:a.eval x = .slice (some ⟨g,0,none⟩) len cap:=hx'
 obtain ⟨A,c,e2,h3,h4,h5⟩:=BW hst.hp (hst.arg y) hy
 rw [List.length_map,List.length_range] at e2 h3 h5
 obtain ⟨g1,-⟩:=Ec (hst.hp id _ hh)
 obtain ⟨hT1,hS,cs,h6,h7,h8⟩:=g1 _ (List.mem_of_getElem? hi)
 simp only [Ch hG] at h7 h8
 obtain ⟨ii,hii,hz0,hsize,hby⟩:=hT.info
 have hinf:(P.info? T).map (·.size)=some sz:=by rw [hii,Option.map_some,hsize]
 have hCl:∀j,(VB N F G j).length=sz:=λj=>by
  unfold VB
  split
  .exact hF j
  .exact hG j
 obtain ⟨q,hq⟩:∃q,q=Nat.min N len:=⟨_,rfl⟩
 have hqN:q<=N:=by rw [hq];exact Nat.min_le_left _ _
 have hql:q<=len:=by rw [hq];exact Nat.min_le_right _ _
 have hql':∀j,j<len->j<N->j<q:=λj h1 h2=>by rw [hq];exact Nat.lt_min.2 ⟨h2,h1⟩
 have hqs:q*sz<=len*sz:=Nat.mul_le_mul_right sz hql
 obtain ⟨vs,hvl,hrun,hvs⟩:∃vs:List Value,vs.length=q*sz/\(execOp a.eval ⟨some e0,.call { callee:=.builtin .copy,args:=#[x,y],argTypes:=#[t,t2] },ty,ps,af,none⟩).run P s.w = .ok (.value (goInt q)) (s.w.setRow g (cs.toList.take 0++vs++cs.toList.drop (0+vs.length)).toArray)/\∀j,j<q*sz->∃u,vs[j]? = some u/\u.oneCell'=true/\(BG (flF (VB N F G) len) j).rel s u:=by
  by_cases h0:q=0
  .refine ⟨[], by rw [h0, Nat.zero_mul]; rfl, ?_, λj hj=>absurd hj (by rw [h0, Nat.zero_mul]; omega)⟩
   have hrun:=Lx P s.w t t2 ty T (some ⟨g,0,none⟩) A len cap N c sz ht.und hinf (hq▸h0)
   have he:s.w.setRow g (cs.toList.take 0++[]++cs.toList.drop (0+([]:List Value).length)).toArray=s.w:=by
    simp only [List.take_zero,List.nil_append,List.length_nil,List.drop_zero,Array.toArray_toList]
    exact setRow_self s.w g cs T0 (0,0) h6
   rw [he,h0]
   simp [execOp,resolve,invoke,builtin,e1,e2,hrun]
  .obtain ⟨g2, p, rfl, h9⟩:=h5 (by omega)
   have hcell:∀j,j<q*sz->∃u,s.w.cell? ⟨g2,p+j,none⟩=some u/\u.oneCell'=true/\(BG (flF (VB N F G) len) j).rel s u:=λj hj=>by
    obtain ⟨k1,k2,k3⟩:=Pb hj
    obtain ⟨h10,h11⟩:=h9 (j/sz) (by omega)
    have er:((List.range N).map F).getD (j/sz) []=F (j/sz):=by
     have:j/sz<N:=by omega
     simp [this]
    rw [er] at h11
    obtain ⟨u,h12,h13,h14⟩:=h11.cell (k:=j%sz) (by rw [hF];exact k2)
    rw [Nat.add_assoc,<-k3] at h12
    refine ⟨u,h12,h13,?_⟩
    have:BG (flF (VB N F G) len) j=BG (F (j/sz)) (j%sz):=by
     unfold BG
     rw [List.getD_eq_getElem?_getD,List.getD_eq_getElem?_getD]
     congr 1
     conv=>lhs;rw [k3]
     rw [Gw hCl (by omega) k2,VB,if_pos (by omega)]
    rw [this]
    exact h14
   obtain ⟨vf,hvf⟩:∃vf:Nat->Value,∀j,j<q*sz->s.w.cell? ⟨g2,p+j,none⟩=some (vf j)/\(vf j).oneCell'=true/\(BG (flF (VB N F G) len) j).rel s (vf j):=⟨λj=>(s.w.cell? ⟨g2,p+j,none⟩).getD undef,λj hj=>by
    obtain ⟨u,y1,y2,y3⟩:=hcell j hj
    have e:(s.w.cell? ⟨g2,p+j,none⟩).getD undef=u:=by rw [y1];rfl
    show s.w.cell? ⟨g2,p+j,none⟩=some ((s.w.cell? ⟨g2,p+j,none⟩).getD undef)/\((s.w.cell? ⟨g2,p+j,none⟩).getD undef).oneCell'=true/\(BG (flF (VB N F G) len) j).rel s ((s.w.cell? ⟨g2,p+j,none⟩).getD undef)
    rw [e]
    exact ⟨y1,y2,y3⟩⟩
   have hvl:((List.range (q*sz)).map vf).length=q*sz:=by simp
   have hva:∀j u,((List.range (q*sz)).map vf)[j]? = some u->j<q*sz/\u=vf j:=λj u hu=>by
    rw [List.getElem?_map] at hu
    by_cases hj:j<q*sz
    .rw [List.getElem?_range hj] at hu
     cases hu
     exact ⟨hj,rfl⟩
    .rw [List.getElem?_eq_none (by simpa using hj)] at hu
     cases hu
   refine ⟨(List.range (q*sz)).map vf,hvl,?_,λj hj=>⟨vf j,by simp [hj],(hvf j hj).2⟩⟩
   have hrun := Wo P s.w t t2 ty T g len cap sz ⟨g2, p, none⟩ N c cs T0 ((List.range (q * sz)).map vf) ht.und hinf h6 (by rw [hvl, hq]) (fun j v hv => by
    obtain ⟨hj,rfl⟩:=hva j v hv
    rw [Addr.add_lit]
    exact (hvf j hj).1) (by rw [hvl];omega) (λv hv=>by
    obtain ⟨j,hj⟩:=List.mem_iff_getElem?.1 hv
    obtain ⟨hj2,e⟩:=hva j v hj
    rw [e]
    exact (hvf j hj2).2.1)
   rw [<-hq] at hrun
   simp [execOp,resolve,invoke,builtin,e1,e2,hrun]
 unfold Oper.wp
 rw [hrun]
 have hfin := FF hst hh hi (W := s.w.setRow g (cs.toList.take 0 ++ vs ++ cs.toList.drop (0 + vs.length)).toArray) (cs' := (cs.toList.take 0 ++ vs ++ cs.toList.drop (0 + vs.length)).toArray) (ds' := flF (VB N F G) len) rfl rfl rfl (by simp [World.setRow]) (fun b hb => setRow_other s.w g b _ hb) (setRow_heap s.w g cs _ T0 _ h6)
  (by rw [Ch hCl]; simp; omega) (fun k hk => by
   rw [Ch hCl] at hk
   rw [HH (by rw [hvl];omega)]
   simp only [Nat.zero_le,true_and,Nat.zero_add,Nat.sub_zero,hvl]
   by_cases hr:k<q*sz
   .rw [if_pos hr]
    exact hvs k hr
   .rw [if_neg hr]
    obtain ⟨u,y1,y2,y3⟩:=h8 k hk
    refine ⟨u,y1,y2,?_⟩
    have k0:=Pb hk
    obtain ⟨k1,k2,k3⟩:=k0
    have hge:¬k/sz<N:=λhlt=>by
     have:=hql' _ k1 hlt
     have h2:(k/sz+1)*sz<=q*sz:=Nat.mul_le_mul_right sz this
     rw [Nat.succ_mul] at h2
     omega
    have:BG (flF (VB N F G) len) k=BG (flF G len) k:=by
     unfold BG
     rw [List.getD_eq_getElem?_getD,List.getD_eq_getElem?_getD]
     congr 1
     conv=>lhs;rw [k3]
     conv=>rhs;rw [k3]
     rw [Gw hCl k1 k2,Gw hG k1 k2,VB,if_neg hge]
    rw [this]
    exact y3) hs
 exact hK _ _ _ h ⟨_,ρ,rfl,hfin.put (GS.Le.refl _) (dst:=some e0) (λd hd'=>by cases hd';simpa [Nat.blt_eq] using hd) (r:=.d Cp) trivial⟩
end
section
variable {P:Program} {hp:List Ow} {arg:Operand->AV} {dd:Option Tmp} {ty:TypeId} {ps:String} {af:Array Edge} {gd:Option (Nat×Bool)}
theorem A0v{T U:TypeId}{x y:Operand}{a n:Nat}(hx:arg x = .d (ex (.int .i64 (a:Nat))))(hy:arg y = .d (ex (.int .i64 (n:Nat))))(hn:n<=63)(ha:a*2^n<=9223372036854775807):Quiet P hp ⟨dd,.binOp .shl T x y U,ty,ps,af,gd⟩ arg (.d (ex (.int .i64 ((a*2^n:Nat):Int)))):=by
 refine ⟨λbase s ρ ev hok hbs hhp h=>?_⟩
 have h1:=h x (by simp [Op.operands])
 have h2:=h y (by simp [Op.operands])
 rw [hx] at h1;rw [hy] at h2
 have e1:ev x = .int .i64 (a:Nat):=h1
 have e2:ev y = .int .i64 (n:Nat):=h2
 have hm:Min.min n IntKind.i64.bits=n:=Nat.min_eq_left (by show n<=64;omega)
 have hw:IntKind.i64.wrap ((a:Int)*2^n)=((a*2^n:Nat):Int):=by
  have e:(a:Int)*2^n=((a*2^n:Nat):Int):=by norm_cast
  rw [e]
  exact IntWalk.i64_in _ (by omega)
 refine Bk (v:=.int .i64 ((a*2^n:Nat):Int)) ?_ ⟨GS.Le.refl s,rfl⟩
 have hneg:¬((n:Int)<0):=by omega
 simp [execOp,e1,e2,eqGuard,binOp,Op.shift,hneg,hm,hw]
theorem RV{T U:TypeId}{x y:Operand}{a b:Nat}(hx:arg x = .d (ex (.int .u8 (a:Nat))))(hy:arg y = .d (ex (.int .u8 (b:Nat))))(ha:a<256)(hb:b<256):Quiet P hp ⟨dd,.binOp .andNot T x y U,ty,ps,af,gd⟩ arg (.d (ex (.int .u8 ((a &&& (255-b):Nat):Int)))):=by
 refine PG hx hy λw=>?_
 have h1:(BitVec.ofInt 8 (a:Int) &&& ~~~ BitVec.ofInt 8 (b:Int)).toNat=a &&& (255-b):=by
  rw [BitVec.toNat_and,BitVec.toNat_not,BitVec.ofInt_natCast,BitVec.ofInt_natCast,BitVec.toNat_ofNat,BitVec.toNat_ofNat,Nat.mod_eq_of_lt ha,Nat.mod_eq_of_lt hb]
 have h2:a &&& (255-b)<256:=Nat.lt_of_le_of_lt Nat.and_le_left ha
 have h3:IntKind.u8.wrap ((a &&& (255-b):Nat):Int)=((a &&& (255-b):Nat):Int):=by
  unfold IntKind.wrap
  have:(((a &&& (255-b):Nat):Int))%(2^IntKind.u8.bits:Int)=((a &&& (255-b):Nat):Int):=Int.emod_eq_of_lt (by omega) (by show _<(256:Int);omega)
  simp [this,IntKind.signed]
 have h4:(BitVec.ofInt IntKind.u8.bits (a:Int) &&& ~~~ BitVec.ofInt IntKind.u8.bits (b:Int)).toNat=a &&& (255-b):=h1
 have h5:((BitVec.ofInt IntKind.u8.bits (a:Int) &&& ~~~ BitVec.ofInt IntKind.u8.bits (b:Int)).toNat:Int)=((a &&& (255-b):Nat):Int):=by rw [h4]
 show Sem.run P (do eqGuard .andNot T x y (.int .u8 a) (.int .u8 b);binOp .andNot T (.int .u8 a) (.int .u8 b)) w=_
 simp only [eqGuard,binOp,Op.intBits,h5,h3]
 rfl
end
theorem A4b{a:Nat}(h:a<256):IntKind.u8.wrap (a:Int)=a:=by
 unfold IntKind.wrap
 have:((a:Int))%(2^IntKind.u8.bits:Int)=(a:Int):=Int.emod_eq_of_lt (by omega) (by show _<(256:Int);omega)
 simp [this,IntKind.signed]
theorem My{P:Program}{hp:List Ow}{arg:Operand->AV}{dd:Option Tmp}{ty:TypeId}{ps:String}{af:Array Edge}{gd:Option (Nat×Bool)}{S T:TypeId}{x:Operand}{k:IntKind}{a:Nat}{d:TypeDesc}{n b n' b':Nat}{z z':Value}(hx:arg x = .d (ex (.int k (a:Nat))))(hS:Tab P S d n b z)(hT:Tab P T (.int .u8) n' b' z')(h:a<256):Quiet P hp ⟨dd,.convert S T x,ty,ps,af,gd⟩ arg (.d (ex (.int .u8 (a:Nat)))):=by
 have:=PF (dd:=dd) (ty:=ty) (ps:=ps) (af:=af) (gd:=gd) (hp:=hp) hx hS hT
 rwa [A4b h] at this
theorem IP{y:Nat->Int}{n:Nat}(h:SupN n y):Bn y 8/2^n=0:=by
 refine Nat.div_eq_of_lt (Nat.lt_pow_two_of_testBit _ λi hi=>?_)
 by_cases h8:i<8
 .rw [Gp y 8 i h8]
  have:=(h i h8).2 hi
  simp [this]
 .refine Nat.testBit_lt_two_pow (Nat.lt_of_lt_of_le (CX y 8) (Nat.pow_le_pow_right (by decide) (by omega)))
theorem A01(l:Ai)(n:Nat)(hn:n<=8)(hl:l.length<=12)(h1:∀y∈l,In8 y 0 64)(h2:∀y∈l,SupN n y):Abs Tryz.prog 46 [AZ l,ex (.int .i64 (n:Nat))] (ex (.int .i64 0)):=by
 refine Xe l n l.length l.length 0 hn (by omega) (Nat.le_refl _) (λk hk=>⟨λj hj=>?_,IP (h2 _ (Cg hk))⟩) (Nat.le_refl _) (.inr ⟨rfl,.inr ⟨hl,λk hk=>?_,.inr ⟨rfl,rfl⟩⟩⟩)
 .have:=h1 _ (Cg hk) j hj
  omega
 .obtain ⟨i,h3,h4,_⟩:=Zm (AH l k) 7
  rw [h4]
  exact (h1 _ (Cg hk) i (by omega)).2
theorem Oc(l:Ai)(n N:Nat)(f:Nat->Int)(ck:Abs Tryz.prog 46 [AZ l,ex (.int .i64 (n:Nat))] (ex (.int .i64 0)))(cn:Abs Tryz.prog 47 [AZ l] (nD N f)):Abs Tryz.prog 14 [AZ l,ex (.int .i64 (n:Nat))] (BC [nD N f,ex (.int .i64 0)]):=by
 refine Ab Tryz.func14 λs0=>?_
 rw [Tryz.ntmps14]
 refine Y1<|Wa<|Wa<|Y0<|Aa<|Y1<|Wm<|Wm ?_;refine Wq (Ad (ck)) ?_;refine Wa<|Y0<|Y1<|Wm ?_;refine Wq Aj ?_;refine Y0<|Cf<|Ys<|Y1<|Wm ?_;refine Wq (Ad (cn)) ?_;refine Wa<|Wa<|Y0<|Am ?_
 exact AN (BA (ResV.tmp rfl rfl) (ResV.tmp rfl rfl) (Be (D.le.refl _) (D.le.refl _)))
theorem A2X(n:Nat):List.replicate n (ex (.int .i64 0))=nC (λ_=>0) n:=by
 unfold nC
 rw [List.map_const',List.length_range]
theorem A3l{N:Nat}{f:Nat->Int}(far:∀i,N<=i->f i=0):cpF N f (λ_=>0)=f:=by
 funext j
 unfold cpF
 split
 .rfl
 .exact (far j (by omega)).symm
theorem Og(l:Ai)(n d N:Nat)(f:Nat->Int)(B:Int)(hn:n<=8)(hd:d<=64)(ck:Abs Tryz.prog 46 [AZ l,ex (.int .i64 (n:Nat))] (ex (.int .i64 0)))(cn:Abs Tryz.prog 47 [AZ l] (nD N f))(far:∀i,N<=i->f i=0)(hb:Bnd f d B)(hB:B*((d:Int)+1)^n<=9223372036854775807):Abs Tryz.prog 16 [AZ l,ex (.int .i64 (n:Nat)),ex (.int .i64 (d:Nat))] (BC [ex (.int .i64 (BU n f d)),ex (.int .i64 0)]):=by
 have hpow:∀j,j<=n->B*((d:Int)+1)^j<=9223372036854775807:=λj hj=>by
  refine Int.le_trans (Int.mul_le_mul_of_nonneg_left ?_ hb.pos) hB
  have:(d+1)^j<=(d+1)^n:=Nat.pow_le_pow_right (by omega) hj
  exact_mod_cast this
 have hadd:∀j,j<n->∀i,i<d->-9223372036854775808<=kS (BU j f) i (i+1)+kS (BU j f) i i/\kS (BU j f) i (i+1)+kS (BU j f) i i<=9223372036854775807:=λj hj i hi=>by
  have h1:=hb.sumn (j+1) (i+1) (by omega)
  have h2:=hpow (j+1) (by omega)
  have h3:BU (j+1) f (i+1)=pS (BU j f) i+BU j f (i+1):=rfl
  rw [OY,Vq]
  omega
 have hdn:d+1<=1000000:=by omega
 refine Ab Tryz.func16 λs0=>?_
 rw [Tryz.ntmps16]
 refine Y1<|Wa<|Wa<|Y0<|Aa<|Y1<|Wm<|Wm ?_;refine Wq (Ad (ck)) ?_;refine Wa<|Y0<|Y1<|Wm ?_;refine Wq Aj ?_;refine Y0<|Cf<|Ys<|Aa<|Y1<|Wm ?_;refine Wq Aj ?_;refine Wm ?_;refine Wg Af ?_;refine Wg Aj ?_;refine Wq Bc ?_;refine Y0<|Cf<|Ys<|Y1<|Wm ?_;refine Wq AD ?_;refine A2n (c:=d+1) (ao rfl) (ao rfl) (Ac rfl) (Ac rfl) rfl rfl hdn rfl rfl rfl rfl (λg=>rfl) λg=>?_;refine Wa<|Y0<|Y1<|Wm<|Wm ?_;refine Wq (Ad (cn)) ?_;refine A2p (f:=f) (N:=N) (len:=d+1) 0 0 (ao rfl) rfl rfl (congrArg (λds=>some (HE.mk g 3 ds)) (A2X (d+1))) (Ac rfl) (Ac rfl) rfl rfl ?_;refine Y0<|Aa<|Y1<|Wm<|Wm<|Y0<|AWp.block ?_
 refine AC (λmz σ=>∃k,k<=n/\mz=n-k/\σ=⟨[(2,.d (ex (.int .i64 (d:Nat)))),(9,.d (sX g (d+1) (d+1))),(30,.d (ex (.int .i64 (n:Nat)))),(31,.d (ex (.int .i64 (k:Nat))))],[.obj (By [⟨g,3,nC (BU k f) (d+1)⟩])]⟩) ?le ⟨0,by omega,rfl,rfl⟩ ?round
 case le=>exact Ah (by exact Yd<|Yd<|Yd<|Yd<|FrLe.nil) (by (refine HpLe.cons (OwLe.obj (by rw [A3l far];rfl)) ?_);exact HpLe.nil)
 case round=>
  rintro mz _ ⟨k,hk,rfl,rfl⟩
  by_cases hlt:k<n
  .apply Y1;refine Wq Ak ?_;refine Y0<|Aa<|Ct<|Ys<|Aa<|AWp.block<|Y1<|Wm<|Wm<|Y0<|AWp.block ?_
   refine AC (λmz σ=>∃i,i<=d/\mz=d-i/\σ=⟨[(2,.d (ex (.int .i64 (d:Nat)))),(9,.d (sX g (d+1) (d+1))),(30,.d (ex (.int .i64 (n:Nat)))),(31,.d (ex (.int .i64 (k:Nat)))),(33,.d (ex (.int .i64 (d:Nat)))),(34,.d (ex (.int .i64 (i:Nat))))],[.obj (By [⟨g,3,nC (kS (BU k f) i) (d+1)⟩])]⟩) ?lei ⟨0,by omega,rfl,rfl⟩ ?roundi
   case lei=>exact Ah (by exact Yd<|Yd<|Yd<|Yd<|Yd<|Yd<|FrLe.nil) (by exact HpLe.cons (OwLe.obj (by rw [Vo]))<|HpLe.nil)
   case roundi=>
    rintro mz _ ⟨i,hi,rfl,rfl⟩
    by_cases hlti:i<d
    .have ha:=hadd k hlt i hlti
     have hst:SetAt (nC (kS (BU k f) i) (d+1)) ((i+1)*1) [ex (.int .i64 (kS (BU k f) i (i+1)+kS (BU k f) i i))] (nC (kS (BU k f) (i+1)) (d+1)):=Vp (BU k f) i▸OP (by omega)
     apply Y1;refine Wq Ak ?_;refine Y0<|Aa<|Ct<|Ys<|Aa<|AWp.block<|Y1<|Wm<|Wa<|Y0 ?_
     refine Dr [[],[],[(38,1)],[(37,0),(39,2)],[(40,3)],[],[],[(42,5),(43,6)],[(44,7)],[(41,4),(45,8)],[(37,0),(39,2)]] [[],[],[1],[0,1,2],[0,1,2,3],[],[],[5,6],[5,6,7],[0,1,2,3,4,5,6,7,8],[0,1,2,3,4,5,6,7,8,9]] ?_
     refine Xq Af ?_;refine Xq Af ?_;refine Xq AD ?_;refine Xq (CN (k:=i+1) (ah rfl) (ah rfl) (Ac rfl) (Ac rfl) (by omega)) ?_;refine Xq (PE (e:=⟨g,3,nC (kS (BU k f) i) (d+1)⟩) 0 0 (ah rfl) rfl rfl (Ac rfl) rfl (Fj (by omega))) ?_;refine Xq Af ?_;refine Xq Af ?_;refine Xq (CN (k:=i) (ah rfl) (ah rfl) (Ac rfl) (Ac rfl) (by omega)) ?_;refine Xq (PE (e:=⟨g,3,nC (kS (BU k f) i) (d+1)⟩) 0 0 (ah rfl) rfl rfl (Ac rfl) rfl (Fj (by omega))) ?_;refine Xq CC ?_;refine Xq (CN (k:=i+1) (ah rfl) (ah rfl) (Ac rfl) (Ac rfl) (by omega)) ?_;refine ⟨_,rfl,?_⟩
     refine A0O (e:=⟨g,3,nC (kS (BU k f) i) (d+1)⟩) 0 0 (ao rfl) (ao rfl) rfl rfl (Ac rfl) (CH rfl) hst rfl ?_;refine AWl.nil<|Ag<|Yn<|AWp.region ?_;refine Wq AD ?_;refine Wm<|AWl.nil ?_
     refine ALoop.next (d-(i+1)) (by omega) ⟨i+1,by omega,rfl,rfl⟩ ?_
     exact Ah (by exact Yd<|Yd<|Yd<|Yd<|Yd<|Yd<|FrLe.nil) (by exact HpLe.cons (OwLe.obj rfl)<|HpLe.nil)
    .obtain rfl:d=i:=by omega
     apply Y1;refine Wq Aj ?_;refine Y0<|Aa<|Cf<|AA<|Aq<|Ar<|ABlock.hit<|Ag<|Yn<|AWp.region ?_;refine Wq AD ?_;refine Wm<|AWl.nil ?_
     refine ALoop.next (n-(k+1)) (by omega) ⟨k+1,by omega,rfl,rfl⟩ ?_
     exact Ah (by exact Yd<|Yd<|Yd<|Yd<|FrLe.nil) (by refine HpLe.cons (OwLe.obj (by rw [Zk (f:=kS (BU k f) d) (f':=BU (k+1) f) λt ht=>if_pos (by omega)])) ?_;exact HpLe.nil)
  .obtain rfl:k=n:=by omega
   apply Y1;refine Wq Aj ?_;refine Y0<|Aa<|Cf<|AA<|Aq<|Ar<|ABlock.hit<|Yn<|Y1<|Wm<|Wm ?_;refine Wq (CN (k:=d) (ao rfl) (ao rfl) (Ac rfl) (Ac rfl) (by omega)) ?_;refine Wq (PE (e:=⟨g,3,nC (BU k f) (d+1)⟩) 0 0 (ao rfl) rfl rfl (Ac rfl) rfl (Fj (by omega))) ?_;refine Wa<|Wa<|Y0<|Am ?_
   exact AN (BA (ResV.tmp rfl rfl) (ResV.tmp rfl rfl) (Be (D.le.refl _) (D.le.refl _)))
def Hf(a:Nat->Int)(s:Nat):Bool:=decide (((Bn a 8 &&& (255-s):Nat):Int)=0)
abbrev mSt(s:Nat):Ow:=.var 3 [.d (ex (.int .i64 (s:Nat)))]
theorem LO(a:Nat->Int)(s:Nat)(hs:s<256):Con Tryz.prog 101 [.d (Bb (AK a)),.ptr 0 0] [mSt s] [] (λr hp'=>r = .d (ex (.bool (Hf a s)))/\hp'=[mSt s,.dead,.var 55 ((AK a).map .d)]):=by
 have hsl:Bn a 8<256:=CX a 8
 refine BK Tryz.func101 rfl (Az Tryz.func101 (by kernel_rfl) (by kernel_rfl)) rfl λs0 pv0=>?_
 rw [Tryz.ntmps101]
 apply Y1;refine Bx ?_;refine Wa<|Y0<|Aa ?_
 refine Dr [[],[(4,0)],[],[(6,2)],[(5,1),(7,3)],[(8,4)]] [[],[0],[],[2],[0,1,2,3],[0,1,2,3,4]] ?_
 refine Xq At ?_;refine Xq (Ad (Gv a)) ?_;refine Xq HJ ?_;refine Xq (My (a:=s) (ah rfl) (Ac rfl) (Ac rfl) hs) ?_;refine Xq (RV (a:=Bn a 8) (b:=s) (ah rfl) (ah rfl) hsl hs) ?_;refine Xq TF ?_;refine ⟨_,rfl,?_⟩
 refine Wa<|Y0<|Am ?_
 refine Bv (RetsA.one rfl) rfl ?_ rfl
 exact ⟨rfl,rfl⟩
theorem TV(l:Ai)(s z:Nat)(hs:s<256)(hl:l.length<=1000)(hz:z<=l.length)(hp:∀k,k<z->Hf (AH l k) s=false)(he:z<l.length->Hf (AH l z) s=true):Con Tryz.prog 138 [.d (AZ l),.fn 101 [0]] [mSt s] [] (λr hp'=>r = .d (ex (.int .i64 (if z<l.length then (z:Nat) else -1)))/\∃tl,hp'=mSt s :: .dead::tl/\(tl=[]\/∃a:Nat->Int,tl=[.dead,.var 55 ((AK a).map .d)])):=by
 refine BK Tryz.func138 rfl (Az Tryz.func138 (by kernel_rfl) (by kernel_rfl)) rfl λs0 pv0=>?_
 rw [Tryz.ntmps138]
 refine Y1<|Wa<|Y0<|Aa<|Y1<|Wm ?_;refine Wq (Dh rfl rfl (Ac rfl)) ?_;refine Wm<|Y0<|AWp.block ?_
 refine AC (λmz σ=>∃k,k<=z/\mz=z-k/\σ=⟨[(0,.d (AZ l)),(1,.fn 101 [0]),(6,.d (AZ l)),(7,.d (ex (.int .i64 (l.length:Nat)))),(8,.d (ex (.int .i64 (k:Nat))))],[mSt s,.pin [(pv0,.own 0)]]⟩) ?le ⟨0,by omega,rfl,rfl⟩ ?round
 case le=>exact Ah (by exact Yd<|FrLe.cons rfl (AVle.fn rfl)<|Yd<|Yd<|Yd<|FrLe.nil) (by exact HpLe.cons (Ce rfl)<|HpLe.cons (Bi rfl)<|HpLe.nil)
 case round=>
  rintro mz _ ⟨k,hk,rfl,rfl⟩
  by_cases hlt:k<z
  .have hlt':k<l.length:=by omega
   have hk:=hp k hlt
   apply Y1;refine Wq Ak ?_;refine Y0<|Aa<|Ct<|Ys<|Aa<|AWp.block<|Y1<|Wm<|Wa<|Y0<|Y1<|Wm<|Wm<|Wm ?_;refine Wq AE ?_;refine Wq AB ?_
   refine Kk [0] [0] (LO (AH l k) s hs) ?_
   rintro _ _ ⟨rfl,rfl⟩
   refine Kr ?_
   try simp only [Bd,Bt]
   rw [hk]
   refine Y0<|Cf<|AWp.skip<|Ag<|Yn<|AWp.region ?_;refine Wq AD ?_;refine Wm<|AWl.nil ?_
   refine ALoop.next (z-(k+1)) (by omega) ⟨k+1,by omega,rfl,rfl⟩ ?_
   exact Ah (by exact Yd<|FrLe.cons rfl (AVle.fn rfl)<|Yd<|Yd<|Yd<|FrLe.nil) (by exact HpLe.cons (Ce rfl)<|HpLe.cons (Bi rfl)<|HpLe.nil)
  .obtain rfl:k=z:=by omega
   by_cases hlt:k<l.length
   .have hk:=he hlt
    apply Y1;refine Wq Ak ?_;refine Y0<|Aa<|Ct<|Ys<|Aa<|AWp.block<|Y1<|Wm<|Wa<|Y0<|Y1<|Wm<|Wm<|Wm ?_;refine Wq AE ?_;refine Wq AB ?_
    refine Kk [0] [0] (LO (AH l k) s hs) ?_
    rintro _ _ ⟨rfl,rfl⟩
    refine Kr ?_
    try simp only [Bd,Bt]
    rw [hk]
    refine Y0<|Ct<|Y1<|Wm<|Wa<|Y0<|Am<|Bw<|AP<|Di<|Bw<|AP ?_
    refine Bv (RetsA.one rfl) rfl ?_ rfl
    exact ⟨by rw [if_pos hlt],_,rfl,.inr ⟨_,rfl⟩⟩
   .apply Y1;refine Wq Aj ?_;refine Y0<|Aa<|Cf<|AA<|Aq<|Ar<|ABlock.hit<|Yn<|Y1<|Wa<|Y0<|Am ?_
    refine Bv (RetsA.one rfl) rfl ?_ rfl
    exact ⟨by rw [if_neg hlt],_,rfl,.inl rfl⟩
theorem UI{e:Nat->Nat}{T:TypeId}{x:D}:Ow.ren e (.var T [.d x]) = .var T ([x].map .d):=rfl
theorem ZA{m T:Nat}{u:D}:Low m (.var T [.d u]):=Low.var λav hav m' ρ s v h=>by
 rw [List.mem_singleton.1 hav] at h ⊢
 exact h
theorem Sc{P:Program}{f:FuncId}{args:List AV}{s:Nat}{T:Nat}{u x:D}(h:Con P f args [.var T [.d u]] [] (λr hp'=>r = .d x/\∃tl,hp' = .var T [.d u] :: .dead::tl)):Con P f args [.var T [.d u]] [] (λr hp'=>r = .d x/\hp'=[.var T [.d u],.dead]):=
 h.cut fun r hp' ⟨h1, tl, h2⟩ => ⟨x, [.var T [.d u], .dead], tl, h1, h2, by simp, fun o ho => by
  rcases List.mem_cons.1 ho with rfl | ho
  .exact ZA
  .rw [List.mem_singleton.1 ho]
   exact Low.dead,rfl,rfl⟩
theorem A1W(p:(Nat->Int)->Bool)(l:Ai):∃z,z<=l.length/\(∀k,k<z->p (AH l k)=false)/\(z<l.length->p (AH l z)=true)/\l.any p=decide (z<l.length):=by
 induction l with
 | nil=>exact ⟨0,Nat.le_refl 0,λk hk=>absurd hk (by omega),λh=>absurd h (by simp),rfl⟩
 | cons a l ih=>
  cases ha:p a with
  | true=>exact ⟨0,by simp,λk hk=>absurd hk (by omega),λ_=>ha,by simp [ha]⟩
  | false=>
   obtain ⟨z,h1,h2,h3,h4⟩:=ih
   refine ⟨z+1,by simpa using h1,λk hk=>?_,λh=>h3 (by simpa using h),by simp [ha,h4]⟩
   cases k with
   | zero=>exact ha
   | succ k=>exact h2 k (by omega)
theorem XW(l:Ai)(s:Nat)(hs:s<256)(hl:l.length<=1000):Con Tryz.prog 102 [.d (AZ l),.fn 101 [0]] [mSt s] [] (λr hp'=>r = .d (ex (.bool (l.any (Hf · s))))/\hp'=[mSt s,.dead,.dead]):=by
 obtain ⟨z,h1,h2,h3,h4⟩:=A1W (Hf · s) l
 rw [h4]
 have c:=(TV l s z hs hl h1 h2 h3).mono (Q':=λr hp'=>r = .d (ex (.int .i64 (if z<l.length then (z:Nat) else -1)))/\∃tl,hp'=mSt s :: .dead::tl) λr hp' ⟨q1,tl,q2,_⟩=>⟨q1,tl,q2⟩
 have c:=Sc (s:=s) c
 by_cases hz:z<l.length
 .rw [if_pos hz] at c
  rw [decide_eq_true hz]
  refine BK Tryz.func102 rfl (Az Tryz.func102 (by kernel_rfl) (by kernel_rfl)) rfl λs0 pv0=>?_
  rw [Tryz.ntmps102]
  refine Y1<|Wa<|Y0<|Y1<|Wm<|Wm ?_
  refine Kk [0] [] (c) ?_
  rintro _ _ ⟨rfl,rfl⟩
  refine Kr ?_
  try simp only [Bd,Bt]
  refine Wq Ak ?_;refine Wa<|Y0<|Am ?_
  refine Bv (RetsA.one rfl) rfl ?_ rfl
  exact ⟨rfl,rfl⟩
 .rw [if_neg hz] at c
  rw [decide_eq_false hz]
  refine BK Tryz.func102 rfl (Az Tryz.func102 (by kernel_rfl) (by kernel_rfl)) rfl λs0 pv0=>?_
  rw [Tryz.ntmps102]
  refine Y1<|Wa<|Y0<|Y1<|Wm<|Wm ?_
  refine Kk [0] [] (c) ?_
  rintro _ _ ⟨rfl,rfl⟩
  refine Kr ?_
  try simp only [Bd,Bt]
  refine Wq Aj ?_;refine Wa<|Y0<|Am ?_
  refine Bv (RetsA.one rfl) rfl ?_ rfl
  exact ⟨rfl,rfl⟩
def Oo(L:List Nat):D:=slD 5 1 (L.map λs=>[ex (.int .u8 (s:Nat))])
def EG(l:Ai)(s:Nat):Bool:=!l.any (Hf · s)
def DJ(l:Ai)(k:Nat):List Nat:=(List.range k).filter (EG l)
theorem NC(l:Ai)(k:Nat):DJ l (k+1)=if EG l k=true then DJ l k++[k] else DJ l k:=by
 unfold DJ
 rw [List.range_succ,List.filter_append,List.filter_cons]
 split<;>simp
theorem KV(l:Ai)(k:Nat):(DJ l k).length<=k:=by
 have:=List.length_filter_le (EG l) (List.range k)
 rwa [List.length_range] at this
theorem On(L:List Nat)(k:Nat):(L.map λs=>[ex (.int .u8 ((s:Nat):Int))])++[[ex (.int .u8 ((k:Nat):Int))]]=(L++[k]).map λs=>[ex (.int .u8 ((s:Nat):Int))]:=by simp
theorem NB(l:Ai)(n:Nat)(hn:n<=8)(hl:l.length<=1000):Abs Tryz.prog 52 [AZ l,ex (.int .i64 (n:Nat))] (Oo (DJ l (2^n))):=by
 have h256:2^n<=256:=by
  have:=Nat.pow_le_pow_right (n:=2) (by decide) hn
  exact this
 have hsh:1*2^n<=9223372036854775807:=by omega
 have e1:1*2^n=2^n:=Nat.one_mul _
 refine Ab Tryz.func52 λs0=>?_
 rw [Tryz.ntmps52]
 refine Y1<|Wa<|Y0<|Y1<|Wa<|Y0<|Aa<|Y1<|Wm ?_;refine Wq (A0v (a:=1) (n:=n) (ao rfl) (ao rfl) (by omega) hsh) ?_;refine Wm<|Y0<|AWp.block ?_
 refine GF 5 5 1 rfl (by decide) (by decide) rfl rfl ?_
 rw [e1]
 generalize hN:2^n=N at h256 ⊢
 refine AC (λmz σ=>∃k,k<=N/\mz=N-k/\σ=⟨[(0,.d (AZ l)),(5,.own 0),(9,.d (ex (.int .i64 (N:Nat)))),(10,.d (ex (.int .i64 (k:Nat))))],[.row 5 1 ((DJ l k).map λs=>[ex (.int .u8 (s:Nat))])]⟩) ?le ⟨0,by omega,rfl,rfl⟩ ?round
 case le=>exact Ah (by exact Yd<|FrLe.cons rfl (AVle.own rfl)<|Yd<|Yd<|FrLe.nil) (by exact Yr<|HpLe.nil)
 case round=>
  rintro mz _ ⟨k,hk,rfl,rfl⟩
  by_cases hlt:k<N
  .have hk:k<256:=by omega
   have hle:=KV l k
   apply Y1;refine Wq Ak ?_;refine Y0<|Aa<|Ct<|Ys<|Aa<|AWp.block<|Y1<|Wm ?_;refine Al ?_;refine JF (ao rfl) (ao rfl) rfl (Ac rfl) (by first | exact CH rfl | exact One.sl | exact Ei) rfl rfl ?_;refine Y0<|Y1 ?_;refine Wq (FW [1] rfl) ?_;refine Wa<|Y0<|Y1<|Wm<|Wm ?_
   refine Kk [1] [] (XW l k hk hl) ?_
   rintro _ _ ⟨rfl,rfl⟩
   refine Kr ?_
   try simp only [Bd,Bt,UI]
   cases hb:l.any (Hf · k) with
   | true=>
    refine Wq BH ?_;refine Y0<|Cf<|AWp.skip<|Ag<|Yn<|AWp.region ?_;refine Wq AD ?_;refine Wm<|AWl.nil ?_
    refine ALoop.next (N-(k+1)) (by omega) ⟨k+1,by omega,rfl,rfl⟩ ?_
    exact Ah (by exact Yd<|FrLe.cons rfl (AVle.own rfl)<|Yd<|Yd<|FrLe.nil) (by (refine HpLe.cons (Ca (by rw [NC,if_neg (by rw [EG,hb];decide)])) ?_);exact HpLe.nil)
   | false=>
    refine Wq BH ?_;refine Y0<|Ct<|AWp.region<|Wm ?_;refine Wq AQ ?_;refine Wq (My (a:=k) (ao rfl) (Ac rfl) (Ac rfl) hk) ?_;(refine CD rfl rfl ?_;(refine Cl (Ac rfl) (Ac rfl) rfl rfl rfl rfl rfl ?_;(repeat ((first | refine ⟨_,AW (ao rfl),?_⟩ | refine ⟨_,Po rfl,?_⟩);refine ⟨_,rfl,?_⟩));refine ⟨_,rfl,?_⟩));(refine GE (ao rfl) rfl rfl (Ac rfl) (Ac rfl) rfl rfl (by simp [Bo];omega) (by simp [Bo];omega) rfl (by first | ((repeat (first | exact PlainHp.nil | refine PlainHp.var ?_ | refine Ck ?_ | refine PlainHp.dead ?_ | refine PlainHp.obj ?_ | refine PlainHp.pin rfl ?_ | refine BY rfl ?_));done) | fail) rfl ?_);refine Wa<|AWl.nil<|Ag<|Yn<|AWp.region ?_;refine Wq AD ?_;refine Wm<|AWl.nil ?_
    refine ALoop.next (N-(k+1)) (by omega) ⟨k+1,by omega,rfl,rfl⟩ ?_
    exact Ah (by exact Yd<|FrLe.cons rfl (AVle.own rfl)<|Yd<|Yd<|FrLe.nil) (by (refine HpLe.cons (Ca (by rw [NC,if_pos (by rw [EG,hb];rfl)];exact On _ k)) ?_);exact HpLe.nil)
  .obtain rfl:k=N:=by omega
   apply Y1;refine Wq Aj ?_;refine Y0<|Aa<|Cf<|AA<|Aq<|Ar<|ABlock.hit<|Yn<|Y1<|Wm<|Wa<|Y0<|Am ?_
   exact Yf
def DI(s:Nat):Nat:=s%2+s/2%2+s/4%2+s/8%2+s/16%2+s/32%2+s/64%2+s/128%2
theorem UO(s:Nat):DI s<=8:=by
 unfold DI
 omega
section
variable {P:Program} {hp:List Ow} {arg:Operand->AV} {dd:Option Tmp} {ty:TypeId} {ps:String} {af:Array Edge} {gd:Option (Nat×Bool)}
theorem A1R{s:ByteArray}{i:Nat}{b:UInt8}(h:s.data[i]? = some b):s[i]? = some b:=by
 obtain ⟨hi,h⟩:=Array.getElem?_eq_some_iff.1 h
 have hi':i<s.size:=hi
 rw [getElem?_pos s i hi']
 exact congrArg some h
theorem A0z{t:TypeId}{x y:Operand}{s:ByteArray}{κ:IntKind}{i n b:Nat}{z:Value}{u:UInt8}(hx:arg x = .d (ex (.string s)))(hy:arg y = .d (ex (.int κ (i:Nat))))(ht:Tab P t .string n b z)(hb:s.data[i]? = some u):Quiet P hp ⟨dd,.index t x y,ty,ps,af,gd⟩ arg (.d (ex (.int .u8 u.toNat))):=by
 refine ⟨λbase w ρ ev hok hbs hhp h=>?_⟩
 have h1:=h x (by simp [Op.operands])
 have h2:=h y (by simp [Op.operands])
 rw [hx] at h1;rw [hy] at h2
 have e1:ev x = .string s:=h1
 have e2:ev y = .int κ (i:Nat):=h2
 refine Bk (v:=.int .u8 u.toNat) ?_ ⟨GS.Le.refl w,rfl⟩
 have hi:(0:Int)<=(i:Int):=by omega
 simp [execOp,e1,e2,Instr.index,asIntOf,run_underlying ht.und,A1R hb]
end
theorem A1l{A:Array UInt8}(h:((List.range 256).all λi=>A[i]? == some (UInt8.ofNat (DI i)))=true){i:Nat}(hi:i<256):A[i]? = some (UInt8.ofNat (DI i)):=by
 have:=List.all_eq_true.1 h i (List.mem_range.2 hi)
 exact eq_of_beq this
theorem Za(s:Nat)(hs:s<256):Abs Tryz.prog 104 [ex (.int .u8 (s:Nat))] (ex (.int .i64 (DI s:Nat))):=by
 have hp:=UO s
 have e:(((UInt8.ofNat (DI s)).toNat:Nat):Int)=((DI s:Nat):Int):=by
  have:(UInt8.ofNat (DI s)).toNat=DI s:=by
   rw [UInt8.toNat_ofNat']
   exact Nat.mod_eq_of_lt (by omega)
  rw [this]
 refine Ab Tryz.func104 λs0=>?_
 rw [Tryz.ntmps104]
 refine Y1<|Wa<|Y0<|Y1<|Wm ?_;refine Wq (A0z (i:=s) (u:=UInt8.ofNat (DI s)) (ao rfl) (ao rfl) (Ac rfl) (A1l (by kernel_rfl) hs)) ?_;refine Wq (HP (a:=((DI s:Nat):Int)) ((ao rfl).trans (by rw [e])) (Ac rfl) (Ac rfl) (by omega) (by omega)) ?_;refine Wa<|Y0<|Am ?_
 exact Yf
def Fe(L:List Nat):Int:=L.foldl (λd s=>max d ((DI s:Nat):Int)) (-1)
theorem JI{L:List Nat}{k:Nat}(h:k<L.length):L.take (k+1)=L.take k++[L.getD k default]:=by
 rw [List.take_add_one,List.getElem?_eq_getElem h,List.getD_eq_getElem?_getD,List.getElem?_eq_getElem h]
 rfl
theorem NH(L:List Nat)(s:Nat):Fe (L++[s])=max (Fe L) ((DI s:Nat):Int):=by
 unfold Fe
 rw [List.foldl_append]
 rfl
theorem Jp(L:List Nat):-1<=Fe L/\Fe L<=8:=by
 have:∀(L:List Nat) (d:Int),-1<=d->d<=8->-1<=L.foldl (λd s=>max d ((DI s:Nat):Int)) d/\L.foldl (λd s=>max d ((DI s:Nat):Int)) d<=8:=by
  intro L
  induction L with
  | nil=>exact λd h1 h2=>⟨h1,h2⟩
  | cons s L ih=>
   intro d h1 h2
   have:=UO s
   exact ih (max d ((DI s:Nat):Int)) (by omega) (by omega)
 exact this L (-1) (by omega) (by omega)
theorem Vr{l:Ai}{n:Nat}{s:Nat}(h:s∈DJ l n):s<n:=List.mem_range.1 (List.mem_filter.1 h).1
theorem Xa(l:Ai)(n:Nat)(hn:n<=8)(hl:l.length<=1000):Abs Tryz.prog 55 [AZ l,ex (.int .i64 (n:Nat))] (ex (.int .i64 (Fe (DJ l (2^n))))):=by
 have h256:2^n<=256:=by
  have:=Nat.pow_le_pow_right (n:=2) (by decide) hn
  exact this
 have ci:=NB l n hn hl
 have hL:∀k,k<(DJ l (2^n)).length->(DJ l (2^n)).getD k default<256:=λk hk=>by
  have:(DJ l (2^n)).getD k default∈DJ l (2^n):=by
   rw [List.getD_eq_getElem?_getD,List.getElem?_eq_getElem hk]
   exact List.getElem_mem hk
  have:=Vr this
  omega
 have hlen:=KV l (2^n)
 generalize DJ l (2^n)=L at ci hL hlen ⊢
 refine Ab Tryz.func55 λs0=>?_
 rw [Tryz.ntmps55]
 refine Y1<|Wa<|Y0<|Y1<|Wa<|Y0<|Aa<|Y1<|Wm<|Wm ?_;refine Wq (Ad (ci)) ?_;refine Wq AR ?_;refine Wm<|Y0<|AWp.block ?_
 refine AC (λmz σ=>∃k,k<=L.length/\mz=L.length-k/\σ=⟨[(5,.d (ex (.int .i64 (Fe (L.take k))))),(10,.d (Oo L)),(11,.d (ex (.int .i64 (L.length:Nat)))),(12,.d (ex (.int .i64 (k:Nat))))],[]⟩) ?le ⟨0,by omega,rfl,rfl⟩ ?round
 case le=>exact Ah (by exact Yd<|Yd<|Yd<|Yd<|FrLe.nil) (by exact HpLe.nil)
 case round=>
  rintro mz _ ⟨k,hk,rfl,rfl⟩
  by_cases hlt:k<L.length
  .have hk:=hL k hlt
   apply Y1;refine Wq Ak ?_;refine Y0<|Aa<|Ct<|Ys<|Aa<|AWp.block<|Y1 ?_;refine Wq AE ?_;refine Wq CA ?_;refine Wa<|Y0<|AWp.region<|Wm<|Wm ?_;refine Wq (Ad (Za (L.getD k default) hk)) ?_;refine Wq IA ?_;refine Wa<|AWl.nil<|Ag<|Yn<|AWp.region ?_;refine Wq AD ?_;refine Wm<|AWl.nil ?_
   refine ALoop.next (L.length-(k+1)) (by omega) ⟨k+1,by omega,rfl,rfl⟩ ?_
   exact Ah (by exact FrLe.cons rfl (AVle.int (by rw [JI hlt,NH]))<|Yd<|Yd<|Yd<|FrLe.nil) (by exact HpLe.nil)
  .obtain rfl:k=L.length:=by omega
   apply Y1;refine Wq Aj ?_;refine Y0<|Aa<|Cf<|AA<|Aq<|Ar<|ABlock.hit<|Yn<|Y1<|Wm<|Wa<|Y0<|Am ?_
   rw [List.take_length]
   exact Yf
theorem Pk{s j:Nat}(hs:s<256)(hj:j<8):(255-s).testBit j = !s.testBit j:=by
 have h:=Nat.testBit_two_pow_sub_succ (n:=8) (x:=s) (by omega) j
 rw [show 2^8-(s+1)=255-s by omega] at h
 rw [h]
 simp [hj]
theorem QO{a:Nat->Int}{s:Nat}(hs:s<256):Hf a s=true↔∀j,j<8->0<a j->s.testBit j=true:=by
 unfold Hf
 rw [decide_eq_true_iff]
 constructor
 .intro h j hj ha
  have h0:Bn a 8 &&& (255-s)=0:=by omega
  have h1:(Bn a 8 &&& (255-s)).testBit j=false:=by rw [h0];exact Nat.zero_testBit j
  rw [Nat.testBit_and,Gp a 8 j hj,decide_eq_true ha,Pk hs hj,Bool.true_and] at h1
  simpa using h1
 .intro h
  have h0:Bn a 8 &&& (255-s)=0:=by
   refine Nat.eq_of_testBit_eq λj=>?_
   rw [Nat.zero_testBit,Nat.testBit_and]
   by_cases hj:j<8
   .rw [Gp a 8 j hj,Pk hs hj]
    by_cases ha:0<a j
    .rw [h j hj ha];simp
    .simp [ha]
   .have:(Bn a 8).testBit j=false:=Nat.testBit_lt_two_pow (Nat.lt_of_lt_of_le (CX a 8) (Nat.pow_le_pow_right (by decide) (by omega)))
    rw [this]
    rfl
  rw [h0]
  rfl
theorem LP{l:Ai}{s:Nat}(hs:s<256):EG l s=true↔MA 8 0 l s.testBit:=by
 unfold EG MA
 rw [Bool.not_eq_true',<-Bool.not_eq_true,List.any_eq_true]
 constructor
 .intro h a ha
  have h1:¬Hf a s=true:=λhi=>h ⟨a,ha,hi⟩
  rw [QO hs] at h1
  obtain ⟨j,h1⟩:=Classical.not_forall.1 h1
  obtain ⟨hj,h1⟩:=Classical.not_imp.1 h1
  obtain ⟨h2,h3⟩:=Classical.not_imp.1 h1
  exact ⟨j,Nat.zero_le j,by omega,by simpa using h3,h2⟩
 .intro h ⟨a,ha,hi⟩
  obtain ⟨j,_,hj,h2,h3⟩:=h a ha
  rw [(QO hs).1 hi j (by omega) h3] at h2
  cases h2
theorem SI{n:Nat}(hn:n<=8):2^n<=256:=Nat.pow_le_pow_right (n:=2) (by decide) hn
theorem ZJ{l:Ai}{n s:Nat}(hn:n<=8)(hs:s<2^n)(hl:∀a∈l,SupN n a):EG l s=true↔MA n 0 l s.testBit:=by
 have h256:=SI hn
 rw [LP (by omega)]
 constructor
 .intro h a ha
  obtain ⟨j,h1,h2,h3,h4⟩:=h a ha
  refine ⟨j,h1,?_,h3,h4⟩
  rcases Nat.lt_or_ge j n with h5 | h5
  .omega
  .have:=(hl a ha j (by omega)).2 h5
   omega
 .intro h a ha
  obtain ⟨j,h1,h2,h3,h4⟩:=h a ha
  exact ⟨j,h1,by omega,h3,h4⟩
theorem Ut{S:Nat->Bool}:∀{k i:Nat},(∀j,i<=j->j<i+k->S j=false)->IH k i S=0
 | 0,_,_=>rfl
 | k+1,i,h=>by
  rw [IH,h i (Nat.le_refl i) (by omega),Ut λj h1 h2=>h j (by omega) (by omega)]
  rfl
theorem Uv{S:Nat->Bool}:∀{k i r:Nat},(∀j,i+k<=j->j<i+k+r->S j=false)->IH (k+r) i S=IH k i S
 | 0,i,r,h=>by rw [Nat.zero_add];exact Ut λj h1 h2=>h j (by omega) (by omega)
 | k+1,i,r,h=>by
  rw [show k+1+r=(k+r)+1 by omega,IH,IH,Uv λj h1 h2=>h j (by omega) (by omega)]
theorem A1T(s j:Nat):(if s.testBit j=true then 1 else 0)=s/2^j%2:=by
 rw [Nat.testBit_eq_decide_div_mod_eq]
 by_cases h:s/2^j%2=1
 .simp [h]
 .simp only [h,decide_false,Bool.false_eq_true,if_false]
  omega
theorem OI(s:Nat):DI s=IH 8 0 s.testBit:=by
 simp only [IH,A1T,DI,Nat.zero_add,Nat.pow_zero,Nat.div_one,Nat.add_zero,Nat.reduceAdd,Nat.reducePow]
 omega
theorem YS{s n:Nat}(hn:n<=8)(hs:s<2^n):DI s=IH n 0 s.testBit:=by
 rw [OI]
 have h:=Uv (k:=n) (i:=0) (r:=8-n) (S:=s.testBit) λj h1 _=>Nat.testBit_lt_two_pow (Nat.lt_of_lt_of_le hs (Nat.pow_le_pow_right (by decide) (by omega)))
 rwa [show n+(8-n)=8 by omega] at h
theorem VD(S:Nat->Bool):∀n,∃s,s<2^n/\∀j,j<n->s.testBit j=S j
 | 0=>⟨0,by decide,λj hj=>absurd hj (Nat.not_lt_zero j)⟩
 | n+1=>by
  obtain ⟨s,h1,h2⟩:=VD S n
  have hp:2^(n+1)=2^n+2^n:=by rw [Nat.pow_succ];omega
  refine ⟨2^n*(if S n=true then 1 else 0)+s,?_,λj hj=>?_⟩
  .split<;>omega
  .rw [Nat.testBit_two_pow_mul_add _ h1]
   split
   .exact h2 j (by assumption)
   .obtain rfl:j=n:=by omega
    rw [Nat.sub_self]
    cases S j<;>rfl
theorem Pg{L:List Nat}{s:Nat}(h:s∈L):((DI s:Nat):Int)<=Fe L:=by
 have key:∀(L:List Nat) (d:Int),d<=L.foldl (λd s=>max d ((DI s:Nat):Int)) d/\∀s∈L,((DI s:Nat):Int)<=L.foldl (λd s=>max d ((DI s:Nat):Int)) d:=by
  intro L
  induction L with
  | nil=>exact λd=>⟨Int.le_refl d,λs hs=>by cases hs⟩
  | cons b L ih=>
   intro d
   obtain ⟨h1,h2⟩:=ih (max d ((DI b:Nat):Int))
   rw [List.foldl_cons]
   refine ⟨by omega,λs hs=>?_⟩
   rcases List.mem_cons.1 hs with rfl | hs
   .omega
   .exact h2 s hs
 exact (key L (-1)).2 s h
theorem Ph(L:List Nat):Fe L = -1\/∃s∈L,Fe L=((DI s:Nat):Int):=by
 have key:∀(L:List Nat) (d:Int),L.foldl (λd s=>max d ((DI s:Nat):Int)) d=d\/∃s∈L,L.foldl (λd s=>max d ((DI s:Nat):Int)) d=((DI s:Nat):Int):=by
  intro L
  induction L with
  | nil=>exact λd=>.inl rfl
  | cons b L ih=>
   intro d
   rw [List.foldl_cons]
   rcases ih (max d ((DI b:Nat):Int)) with h | ⟨s,hs,h⟩
   .rw [h]
    rcases Int.le_total d ((DI b:Nat):Int) with hle | hle
    .exact .inr ⟨b,List.mem_cons_self,by omega⟩
    .exact .inl (by omega)
   .exact .inr ⟨s,List.mem_cons_of_mem _ hs,h⟩
 exact key L (-1)
theorem FD{l:Ai}{m s:Nat}:s∈DJ l m↔s<m/\EG l s=true:=by
 unfold DJ
 rw [List.mem_filter,List.mem_range]
theorem Pf{l:Ai}{n:Nat}(hn:n<=8)(hl:∀a∈l,SupN n a):IsDim n 0 l (Fe (DJ l (2^n))):=by
 refine ⟨λS hS=>?_,?_⟩
 .obtain ⟨s,h1,h2⟩:=VD S n
  have hI:MA n 0 l s.testBit:=λa ha=>by
   obtain ⟨j,g1,g2,g3,g4⟩:=hS a ha
   exact ⟨j,g1,g2,(h2 j (by omega)).trans g3,g4⟩
  rw [Ht (S:=S) (S':=s.testBit) λj _ hj=>(h2 j (by omega)).symm,<-YS hn h1]
  exact Pg (FD.2 ⟨h1,(ZJ hn h1 hl).2 hI⟩)
 .rcases Ph (DJ l (2^n)) with h | ⟨s,hs,h⟩
  .exact .inl h
  .obtain ⟨h1,h2⟩:=FD.1 hs
   exact .inr ⟨s.testBit,(ZJ hn h1 hl).1 h2,by rw [h,YS hn h1]⟩
def Gl(a:Nat->Int):Nat->Int:=λj=>if j<8 then a j else 0
theorem OO{l:Ai}{n:Nat}{f:Nat->Int}(hn:n<=8)(hl:∀a∈l,SupN n a)(hf:Num l f):∃c,Ser (BU n f) (Fe (DJ l (2^n))) c:=by
 have h8:∀a∈l.map Gl,∀j,0<=a j:=λa ha j=>by
  obtain ⟨b,hb,rfl⟩:=List.mem_map.1 ha
  show 0<=if j<8 then b j else 0
  split
  .rename_i h
   exact (hl b hb j h).1
  .omega
 have hS:∀S,MA n 0 (l.map Gl) S↔MA n 0 l S:=λS=>⟨λh a ha=>by
  obtain ⟨j,g1,g2,g3,g4⟩:=h _ (List.mem_map_of_mem ha)
  refine ⟨j,g1,g2,g3,?_⟩
  have g5:0<if j<8 then a j else 0:=g4
  rwa [if_pos (by omega)] at g5,λh a ha=>by
  obtain ⟨b,hb,rfl⟩:=List.mem_map.1 ha
  obtain ⟨j,g1,g2,g3,g4⟩:=h b hb
  refine ⟨j,g1,g2,g3,?_⟩
  show 0<if j<8 then b j else 0
  rwa [if_pos (by omega)]⟩
 have hF:FR n 0 (l.map Gl)=FR n 0 l:=by
  funext d
  refine ES λx _=>?_
  unfold Sx
  rw [List.any_map]
  congr 2
  funext a
  refine bool_eq (FT.trans (Iff.trans ⟨λh j h1 h2=>?_,λh j h1 h2=>?_⟩ FT.symm))
  .have:=h j h1 h2
   have h3:(if j<8 then a j else 0)<=x j:=this
   rwa [if_pos (by omega)] at h3
  .show (if j<8 then a j else 0)<=x j
   rw [if_pos (by omega)]
   exact h j h1 h2
 obtain ⟨D,c,h1,h2⟩:=UF n 0 (l.map Gl) h8
 have h3:IsDim n 0 l D:=⟨λS h=>h2.1 S ((hS S).2 h),h2.2.imp id λ⟨S,g1,g2⟩=>⟨S,(hS S).1 g1,g2⟩⟩
 have h4:=h3.uniq (Pf hn hl) h1.ge.1 (Jp _).1
 rw [hF,<-A4k hn hl] at h1
 have h5:BU n f=λd=>hN n d l:=funext λd=>hf n hn hl d
 rw [h5,<-h4]
 exact ⟨c,h1⟩
def IS(s t:Nat):Bool:=decide (((s &&& (255-t):Nat):Int)=0)
theorem A09{s j:Nat}(hs:s<256)(hj:8<=j):s.testBit j=false:=
 Nat.testBit_lt_two_pow (Nat.lt_of_lt_of_le (show s<2^8 from hs) (Nat.pow_le_pow_right (by decide) hj))
theorem ER{s t:Nat}(hs:s<256)(ht:t<256):IS s t=true↔∀j,s.testBit j=true->t.testBit j=true:=by
 unfold IS
 rw [decide_eq_true_iff]
 constructor
 .intro h j hsj
  have h0:s &&& (255-t)=0:=by omega
  have hj:j<8:=by
   rcases Nat.lt_or_ge j 8 with h | h
   .exact h
   .rw [A09 hs h] at hsj
    cases hsj
  have h1:(s &&& (255-t)).testBit j=false:=by rw [h0];exact Nat.zero_testBit j
  rw [Nat.testBit_and,hsj,Pk ht hj,Bool.true_and] at h1
  simpa using h1
 .intro h
  have h0:s &&& (255-t)=0:=by
   refine Nat.eq_of_testBit_eq λj=>?_
   rw [Nat.zero_testBit,Nat.testBit_and]
   by_cases hj:j<8
   .rw [Pk ht hj]
    cases hb:s.testBit j with
    | false=>rfl
    | true=>rw [h j hb];rfl
   .rw [A09 hs (by omega)]
    rfl
  rw [h0]
  rfl
def GJ(l:Ai)(N:Nat):List Nat:=(DJ l N).filter λs=>!(DJ l N).any λt=>(s != t)&&IS s t
def JS(l:Ai)(n s:Nat):Bool:=EG l s&&(List.range n).all λi=>decide (s/2^i%2=1) || !EG l (s ||| 2^i)
theorem ZH{l:Ai}{s t:Nat}(hs:s<256)(ht:t<256)(h:EG l t=true)(hst:∀j,s.testBit j=true->t.testBit j=true):EG l s=true:=by
 rw [LP ht] at h
 rw [LP hs]
 intro a ha
 obtain ⟨j,h1,h2,h3,h4⟩:=h a ha
 refine ⟨j,h1,h2,?_,h4⟩
 cases hb:s.testBit j with
 | false=>rfl
 | true=>rw [hst j hb] at h3;cases h3
theorem VE(s i:Nat):decide (s/2^i%2=1)=s.testBit i:=by
 rw [Nat.testBit_eq_decide_div_mod_eq]
theorem SL{s i j:Nat}:(s ||| 2^i).testBit j=(s.testBit j||decide (i=j)):=by
 rw [Nat.testBit_or,Nat.testBit_two_pow]
theorem YZ{s i n:Nat}(hs:s<2^n)(hi:i<n):s ||| 2^i<2^n:=Nat.or_lt_two_pow hs (Nat.pow_lt_pow_right (by decide) hi)
theorem Zu(l:Ai)(n:Nat)(hn:n<=8):GJ l (2^n)=(List.range (2^n)).filter (JS l n):=by
 have h256:=SI hn
 unfold GJ
 conv=>lhs;rw [DJ,List.filter_filter]
 refine List.filter_congr λs hs=>?_
 have hs:=List.mem_range.1 hs
 cases hi:EG l s with
 | false=>rw [JS,hi,Bool.and_false,Bool.false_and]
 | true=>
  rw [Bool.and_true,JS,hi,Bool.true_and]
  refine bool_eq ?_
  rw [Bool.not_eq_true',<-Bool.not_eq_true,List.any_eq_true,List.all_eq_true]
  constructor
  .intro h i hir
   have hin:=List.mem_range.1 hir
   rw [VE]
   cases hb:s.testBit i with
   | true=>rfl
   | false=>
    cases ho:EG l (s ||| 2^i) with
    | false=>rfl
    | true=>
     refine absurd ⟨s ||| 2^i,FD.2 ⟨YZ hs hin,ho⟩,?_⟩ h
     rw [Bool.and_eq_true]
     refine ⟨bne_iff_ne.2 λe=>?_,(ER (by omega) (by have:=YZ hs hin;omega)).2 λj hj=>by rw [SL,hj];rfl⟩
     have h2:(s ||| 2^i).testBit i=true:=by rw [SL];simp
     rw [<-e,hb] at h2
     cases h2
  .intro h ⟨t,ht,h2⟩
   obtain ⟨ht1,ht2⟩:=FD.1 ht
   rw [Bool.and_eq_true] at h2
   have h3:=(ER (by omega) (by omega)).1 h2.2
   have hne:¬s=t:=bne_iff_ne.1 h2.1
   have hex:∃i,i<n/\s.testBit i=false/\t.testBit i=true:=by
    refine Classical.byContradiction λhno=>hne (Nat.eq_of_testBit_eq λj=>?_)
    by_cases hj:j<n
    .cases hb:s.testBit j with
     | true=>exact (h3 j hb).symm
     | false=>
      cases hb2:t.testBit j with
      | false=>rfl
      | true=>exact absurd ⟨j,hj,hb,hb2⟩ hno
    .rw [Nat.testBit_lt_two_pow (Nat.lt_of_lt_of_le hs (Nat.pow_le_pow_right (by decide) (by omega))),Nat.testBit_lt_two_pow (Nat.lt_of_lt_of_le ht1 (Nat.pow_le_pow_right (by decide) (by omega)))]
   obtain ⟨i,h4,h5,h6⟩:=hex
   have h7:=h i (List.mem_range.2 h4)
   rw [VE,h5,Bool.false_or] at h7
   have h8 := ZH (s := s ||| 2 ^ i) (by have := YZ hs h4; omega) (by omega) ht2 fun j hj => by
    rw [SL,Bool.or_eq_true] at hj
    rcases hj with hj | hj
    .exact h3 j hj
    .rw [<-of_decide_eq_true hj]
     exact h6
   rw [h8] at h7
   cases h7
theorem A18{s t:Nat}(hs:s<256)(ht:t<256)(h:IS s t=true):s<=t:=by
 have e:s &&& t=s:=Nat.eq_of_testBit_eq λj=>by
  rw [Nat.testBit_and]
  cases hb:s.testBit j with
  | false=>rfl
  | true=>rw [(ER hs ht).1 h j hb];rfl
 rw [<-e]
 exact Nat.and_le_right
theorem Wk(s:Nat)(hs:s<256):IS s s=true:=(ER hs hs).2 λ_ h=>h
theorem Sv{s t u:Nat}(hs:s<256)(ht:t<256)(hu:u<256)(h:IS s t=true)(h':IS t u=true):IS s u=true:=(ER hs hu).2 λj hj=>(ER ht hu).1 h' j ((ER hs ht).1 h j hj)
theorem KR{l:Ai}{N s:Nat}:s∈GJ l N↔s<N/\EG l s=true/\∀t,t<N->EG l t=true->IS s t=true->s=t:=by
 unfold GJ
 rw [List.mem_filter,FD,Bool.not_eq_true',<-Bool.not_eq_true,List.any_eq_true]
 constructor
 .intro ⟨⟨h1,h2⟩,h3⟩
  refine ⟨h1,h2,λt ht hi hs=>Classical.byContradiction λhne=>h3 ⟨t,FD.2 ⟨ht,hi⟩,?_⟩⟩
  rw [Bool.and_eq_true]
  exact ⟨bne_iff_ne.2 hne,hs⟩
 .intro ⟨h1,h2,h3⟩
  refine ⟨⟨h1,h2⟩,λ⟨t,ht,h4⟩=>?_⟩
  obtain ⟨h5,h6⟩:=FD.1 ht
  rw [Bool.and_eq_true] at h4
  exact bne_iff_ne.1 h4.1 (h3 t h5 h6 h4.2)
theorem Ny{l:Ai}{N:Nat}(hN:N<=256):∀(m s:Nat),N-s<=m->s<N->EG l s=true->∃t∈GJ l N,IS s t=true
 | 0,s,hm,hs,_=>by omega
 | m+1,s,hm,hs,hi=>by
  by_cases h:∀t,t<N->EG l t=true->IS s t=true->s=t
  .exact ⟨s,KR.2 ⟨hs,hi,h⟩,Wk s (by omega)⟩
  .obtain ⟨t,h⟩:=Classical.not_forall.1 h
   obtain ⟨h1,h⟩:=Classical.not_imp.1 h
   obtain ⟨h2,h⟩:=Classical.not_imp.1 h
   obtain ⟨h3,h⟩:=Classical.not_imp.1 h
   have:=A18 (by omega) (by omega) h3
   obtain ⟨u,h4,h5⟩:=Ny hN m t (by omega) h1 h2
   exact ⟨u,h4,Sv (by omega) (by omega) (by have:=(KR.1 h4).1;omega) h3 h5⟩
def StdX(l:Ai)(n:Nat)(x:Nat->Int):Prop:=(∀j,j<8->0<=x j/\(n<=j->x j=0))/\inB l x=false
theorem FE{l:Ai}{x y:Nat->Int}(h:Dv x y)(hx:inB l x=true):inB l y=true:=by
 obtain ⟨a,ha,hd⟩:=Dp.1 hx
 exact Dp.2 ⟨a,ha,λj hj=>Int.le_trans (hd j hj) (h j hj)⟩
theorem StdX.congr{l:Ai}{n:Nat}{x y:Nat->Int}(h:StdX l n x)(e:Eqv x y):StdX l n y:=by
 refine ⟨λj hj=>by rw [<-e j hj];exact h.1 j hj,?_⟩
 rw [Bool.eq_false_iff]
 intro hy
 have:=FE (show Dv y x from e.symm.dv) hy
 rw [h.2] at this
 cases this
abbrev IG(m:Nat->Int)(i:Nat):Nat->Int:=HV m i (m i+1)
theorem FX(m:Nat->Int)(i j:Nat):IG m i j=if j=i then m i+1 else m j:=rfl
theorem A2J(m:Nat->Int)(i:Nat):Dv m (IG m i):=λj _=>by
 rw [FX]
 split
 .rename_i h;subst h;omega
 .omega
def Clo(l:Ai)(n:Nat)(K:Ai)(x:Nat->Int):Prop:=∀y,StdX l n y->Dv x y->MemE y K
theorem MemE.app{K tl:Ai}{y:Nat->Int}(h:MemE y K):MemE y (K++tl):=FB.2 (.inl h)
theorem Clo.app{l:Ai}{n:Nat}{K tl:Ai}{x:Nat->Int}(h:Clo l n K x):Clo l n (K++tl) x:=λy hy hd=>(h y hy hd).app
def PreD(l:Ai)(n:Nat)(K:Ai)(m:Nat->Int):Prop:=∀x∈K,(Dv x m/\¬Eqv x m)\/Clo l n K x
structure Dfs(l:Ai)(n:Nat)(K:Ai)(m:Nat->Int)(K':Ai):Prop where
 ext:∃tl,K'=K++tl
 new:∀x∈K',x∈K\/(StdX l n x/\Dv m x)
 all:Clo l n K' m
 pw:K'.Pairwise λa b=>¬Eqv a b
structure DfsI(l:Ai)(n:Nat)(K:Ai)(m:Nat->Int)(i:Nat)(K':Ai):Prop where
 ext:∃tl,K'=K++m::tl
 new:∀x∈K',x∈K\/(StdX l n x/\Dv m x)
 clo:∀x∈K',x∈K\/Eqv x m\/Clo l n K' x
 got:∀t,t<i->Clo l n K' (IG m t)
 pw:K'.Pairwise λa b=>¬Eqv a b
theorem A0L{l:Ai}{n:Nat}{K:Ai}{m:Nat->Int}(h:inB l m=true)(hp:K.Pairwise λa b=>¬Eqv a b):Dfs l n K m K:=
 ⟨⟨[],(List.append_nil K).symm⟩,λx hx=>.inl hx,λy hy hd=>(by
  have:=FE hd h
  rw [hy.2] at this
  exact Bool.noConfusion this),hp⟩
theorem A0K{l:Ai}{n:Nat}{K:Ai}{m:Nat->Int}(h:MemE m K)(hpre:PreD l n K m)(hp:K.Pairwise λa b=>¬Eqv a b):Dfs l n K m K:=by
 refine ⟨⟨[],(List.append_nil K).symm⟩,λx hx=>.inl hx,λy hy hd=>?_,hp⟩
 obtain ⟨x,hx,e⟩:=h
 rcases hpre x hx with ⟨_,hne⟩ | hc
 .exact absurd e hne
 .exact hc y hy (e.dv.trans hd)
theorem DfsI.start{l:Ai}{n:Nat}{K:Ai}{m:Nat->Int}(hm:StdX l n m)(hn:∀x∈K,¬Eqv m x)(hp:K.Pairwise λa b=>¬Eqv a b):DfsI l n K m 0 (K++[m]):=by
 refine ⟨⟨[],rfl⟩,λx hx=>?_,λx hx=>?_,λt ht=>absurd ht (Nat.not_lt_zero t),?_⟩
 .rcases List.mem_append.1 hx with h | h
  .exact .inl h
  .rw [List.mem_singleton.1 h]
   exact .inr ⟨hm,Dv.refl m⟩
 .rcases List.mem_append.1 hx with h | h
  .exact .inl h
  .rw [List.mem_singleton.1 h]
   exact .inr (.inl (Eqv.refl m))
 .rw [List.pairwise_append]
  refine ⟨hp,by simp,λa ha b hb=>?_⟩
  rw [List.mem_singleton.1 hb]
  exact λe=>hn a ha e.symm
theorem DfsI.pre{l:Ai}{n:Nat}{K K':Ai}{m:Nat->Int}{i:Nat}(h:DfsI l n K m i K')(hp:PreD l n K m)(hi:i<8):PreD l n K' (IG m i):=λx hx=>by
 have up:Dv x m->Dv x (IG m i)/\¬Eqv x (IG m i):=λhd=>⟨hd.trans (A2J m i),λe=>by
  have h1:=hd i hi
  have h2:=e i hi
  rw [FX,if_pos rfl] at h2
  omega⟩
 obtain ⟨tl,he⟩:=h.ext
 rcases h.clo x hx with h1 | h1 | h1
 .rcases hp x h1 with h2 | h2
  .exact .inl (up h2.1)
  .refine .inr ?_
   rw [he]
   exact h2.app
 .exact .inl (up h1.dv)
 .exact .inr h1
theorem DfsI.step{l:Ai}{n:Nat}{K K1 K2:Ai}{m:Nat->Int}{i:Nat}(h:DfsI l n K m i K1)(h2:Dfs l n K1 (IG m i) K2):DfsI l n K m (i+1) K2:=by
 obtain ⟨tl,e1⟩:=h.ext
 obtain ⟨tl2,e2⟩:=h2.ext
 refine ⟨⟨tl++tl2,by rw [e2,e1,List.append_assoc,List.cons_append]⟩,λx hx=>?_,λx hx=>?_,λt ht=>?_,h2.pw⟩
 .rcases h2.new x hx with h3 | ⟨h3,h4⟩
  .exact h.new x h3
  .exact .inr ⟨h3,(A2J m i).trans h4⟩
 .rcases h2.new x hx with h3 | ⟨h3,h4⟩
  .rcases h.clo x h3 with h5 | h5 | h5
   .exact .inl h5
   .exact .inr (.inl h5)
   .refine .inr (.inr ?_)
    rw [e2]
    exact h5.app
  .exact .inr (.inr λy hy hd=>h2.all y hy (h4.trans hd))
 .by_cases e:t=i
  .subst e
   exact h2.all
  .rw [e2]
   exact (h.got t (by omega)).app
theorem DfsI.done{l:Ai}{n:Nat}{K K':Ai}{m:Nat->Int}(h:DfsI l n K m n K')(hn:n<=8)(hm:∀j,j<8->0<=m j):Dfs l n K m K':=by
 obtain ⟨tl,e⟩:=h.ext
 refine ⟨⟨m::tl,e⟩,h.new,λy hy hd=>?_,h.pw⟩
 by_cases he:Eqv m y
 .exact ⟨m,by rw [e];simp,he⟩
 .obtain ⟨j,he⟩:=Classical.not_forall.1 he
  obtain ⟨hj,hne⟩:=Classical.not_imp.1 he
  have h1:=hd j hj
  have h2:=hm j hj
  have hjn:j<n:=by
   rcases Nat.lt_or_ge j n with h3 | h3
   .exact h3
   .have:=(hy.1 j hj).2 h3
    omega
  refine h.got j hjn y hy λt ht=>?_
  rw [FX]
  split
  .rename_i h3
   subst h3
   omega
  .exact hd t ht
theorem Pi(m:Nat->Int)(i:Nat)(hm:∀j,j<8->0<=m j)(hi:i<8):BQ 8 0 (IG m i)=BQ 8 0 m+1:=by
 have key:∀(k a:Nat),a+k<=8->BQ k a (IG m i)=BQ k a m+if a<=i/\i<a+k then 1 else 0:=by
  intro k
  induction k with
  | zero=>intro a _;rw [if_neg (by omega)];rfl
  | succ k ih=>
   intro a ha
   rw [BQ,BQ,ih (a+1) (by omega),FX]
   have h0:=hm a (by omega)
   by_cases e:a=i
   .subst e
    rw [if_pos rfl,if_neg (by omega),if_pos (by omega)]
    omega
   .rw [if_neg e]
    by_cases h1:a<=i/\i<a+(k+1)
    .rw [if_pos h1, if_pos (by omega)]
     omega
    .rw [if_neg h1, if_neg (by omega)]
     rfl
 rw [key 8 0 (by omega),if_pos (by omega)]
theorem Dfs.top{l:Ai}{n:Nat}{K:Ai}(h:Dfs l n [] (λ_=>0) K):(∀x,MemE x K↔StdX l n x)/\K.Pairwise λa b=>¬Eqv a b:=by
 refine ⟨λx=>⟨λ⟨a,ha,e⟩=>?_,λhx=>h.all x hx λj hj=>(hx.1 j hj).1⟩,h.pw⟩
 rcases h.new a ha with h1 | ⟨h1,_⟩
 .cases h1
 .exact h1.congr e
theorem PreD.top(l:Ai)(n:Nat)(m:Nat->Int):PreD l n [] m:=λx hx=>by cases hx
theorem SA{S K:Ai}(hp:S.Perm K)(hs:S.Pairwise λa b=>lx a b<=0)(hK:K.Pairwise λa b=>¬Eqv a b):(S.Pairwise λa b=>lx a b<0)/\∀x,MemE x S↔MemE x K:=by
 have hS:S.Pairwise λa b=>¬Eqv a b:=(hp.pairwise_iff λ{a b} h e=>h e.symm).2 hK
 refine ⟨?_,λx=>⟨λ⟨a,ha,e⟩=>⟨a,hp.mem_iff.1 ha,e⟩,λ⟨a,ha,e⟩=>⟨a,hp.mem_iff.2 ha,e⟩⟩⟩
 refine (hs.and hS).imp λ{a b} h=>?_
 have hne:lx a b≠0:=λh0=>h.2 (EO.1 h0)
 omega
theorem HD{m m':Nat->Int}:∀{k i:Nat},(∀j,i<=j->j<i+k->m j=m' j)->BQ k i m=BQ k i m'
 | 0,_,_=>rfl
 | k+1,i,h=>by rw [BQ,BQ,h i (Nat.le_refl i) (by omega),HD λj h1 h2=>h j (by omega) (by omega)]
theorem Gr:∀{k i d:Nat} {m:Nat->Int},m∈rM k i d↔InV k i m/\BQ k i m=d
 | 0,i,d,m=>by
  unfold rM
  constructor
  .intro h
   split at h
   .rename_i hd
    rw [List.mem_singleton.1 h]
    exact ⟨⟨λ_=>Int.le_refl 0,λ_ _=>rfl⟩,hd.symm⟩
   .cases h
  .intro ⟨h1,h2⟩
   have h3:0=d:=h2
   rw [if_pos h3.symm,List.mem_singleton]
   funext j
   exact h1.2 j (by omega)
 | k+1,i,d,m=>by
  rw [rM,List.mem_flatMap]
  constructor
  .intro ⟨e,he,h⟩
   have he:=List.mem_range.1 he
   obtain ⟨m',hm',rfl⟩:=List.mem_map.1 h
   obtain ⟨h1,h2⟩:=Gr.1 hm'
   refine ⟨⟨λj=>?_,λj hj=>?_⟩,?_⟩
   .show 0<=if j=i then _ else _
    split
    .omega
    .exact h1.1 j
   .show (if j=i then _ else _)=_
    rw [if_neg (by omega)]
    exact h1.2 j (by omega)
   .rw [BQ, HD (m':=m') λj h3 _=>if_neg (by omega), h2]
    show (if i=i then (((d-e:Nat):Nat):Int) else m' i).toNat+e=d
    rw [if_pos rfl]
    omega
  .intro ⟨h1,h2⟩
   rw [BQ] at h2
   refine ⟨BQ k (i+1) m,List.mem_range.2 (by omega),List.mem_map.2 ⟨λj=>if j=i then 0 else m j,Gr.2 ⟨⟨λj=>?_,λj hj=>?_⟩,?_⟩,?_⟩⟩
   .show 0<=if j=i then _ else _
    split
    .omega
    .exact h1.1 j
   .show (if j=i then _ else _)=_
    split
    .rfl
    .exact h1.2 j (by omega)
   .exact HD λj h3 _=>if_neg (by omega)
   .funext j
    show (if j=i then (((d-BQ k (i+1) m:Nat):Nat):Int) else if j=i then 0 else m j)=m j
    split
    .rename_i e
     subst e
     have:=h1.1 j
     omega
    .rfl
theorem Qe:∀(k i d:Nat),(rM k i d).Nodup
 | 0,i,d=>by
  unfold rM
  split
  .simp
  .exact List.nodup_nil
 | k+1,i,d=>by
  rw [rM]
  unfold List.Nodup
  rw [List.pairwise_flatMap]
  refine ⟨λe he=>?_,(List.pairwise_lt_range (n:=d+1)).imp_of_mem ?_⟩
  .have ih:=Qe k (i+1) e
   rw [List.pairwise_map]
   refine List.Pairwise.imp_of_mem ?_ ih
   intro a b ha hb hab h
   refine hab ?_
   obtain ⟨h1,_⟩:=Gr.1 ha
   obtain ⟨h2,_⟩:=Gr.1 hb
   funext j
   by_cases hj:j=i
   .rw [hj,h1.2 i (by omega),h2.2 i (by omega)]
   .have:=congrFun h j
    simp only [if_neg hj] at this
    exact this
  .intro e e' he he' hlt x hx y hy h
   obtain ⟨a,_,rfl⟩:=List.mem_map.1 hx
   obtain ⟨b,_,rfl⟩:=List.mem_map.1 hy
   have he:=List.mem_range.1 he
   have he':=List.mem_range.1 he'
   have:=congrFun h i
   simp only [if_pos] at this
   omega
theorem OV(l:Ai):∀L:Ai,Sm (GI l) L=((L.filter λm=>!inB l m).length:Int)
 | []=>rfl
 | m::L=>by
  rw [Sm,OV l L,List.filter_cons]
  unfold GI
  cases inB l m with
  | true=>simp
  | false=>simp;omega
theorem Jr(a:Nat->Int):Eqv (Gl a) a:=λj hj=>if_pos hj
def MJ(l:Ai)(n B:Nat):Ai:=((List.range B).flatMap λd=>rM n 0 d).filter λm=>!inB l m
theorem PS(l:Ai)(n:Nat):∀B,((MJ l n B).length:Int)=Ba B λd=>hN n d l
 | 0=>rfl
 | B+1=>by
  rw [Ba,<-PS l n B,<-QT,OV,MJ,List.range_succ,List.flatMap_append,List.filter_append,List.length_append]
  simp [MJ]
theorem Ln(l:Ai)(n B:Nat):(MJ l n B).Nodup:=by
 refine List.Pairwise.filter _ ?_
 rw [List.pairwise_flatMap]
 refine ⟨λd _=>Qe n 0 d,(List.pairwise_lt_range (n:=B)).imp_of_mem ?_⟩
 intro d d' _ _ hlt x hx y hy h
 have h1:=(Gr.1 hx).2
 have h2:=(Gr.1 hy).2
 rw [h] at h1
 omega
theorem GR{l:Ai}{n B:Nat}{m:Nat->Int}:m∈MJ l n B↔InV n 0 m/\BQ n 0 m<B/\inB l m=false:=by
 unfold MJ
 rw [List.mem_filter,List.mem_flatMap]
 constructor
 .intro ⟨⟨d,hd,hm⟩,h⟩
  obtain ⟨h1,h2⟩:=Gr.1 hm
  exact ⟨h1,by rw [h2];exact List.mem_range.1 hd,by simpa using h⟩
 .intro ⟨h1,h2,h3⟩
  exact ⟨⟨_,List.mem_range.2 h2,Gr.2 ⟨h1,rfl⟩⟩,by simp [h3]⟩
theorem Wl{l K:Ai}{n B:Nat}(hn:n<=8)(hK:∀x,MemE x K↔StdX l n x)(hp:K.Pairwise λa b=>¬Eqv a b)(hB:∀x,StdX l n x->BQ n 0 x<B):((K.length:Nat):Int)=Ba B λd=>hN n d l:=by
 rw [<-PS]
 have hnd:(K.map Gl).Nodup:=by
  unfold List.Nodup
  rw [List.pairwise_map]
  refine hp.imp ?_
  intro a b h e
  refine h λj hj=>?_
  have:=congrFun e j
  unfold Gl at this
  rwa [if_pos hj,if_pos hj] at this
 have hperm:(K.map Gl).Perm (MJ l n B):=(List.perm_ext_iff_of_nodup hnd (Ln l n B)).2 λm=>by
  rw [GR]
  constructor
  .intro h
   obtain ⟨a,ha,rfl⟩:=List.mem_map.1 h
   have h1:StdX l n (Gl a):=((hK a).1 ⟨a,ha,Eqv.refl a⟩).congr (Jr a).symm
   refine ⟨⟨λj=>?_,λj hj=>?_⟩,hB _ h1,h1.2⟩
   .by_cases h8:j<8
    .exact (h1.1 j h8).1
    .unfold Gl
     rw [if_neg h8]
     omega
   .by_cases h8:j<8
    .exact (h1.1 j h8).2 (by omega)
    .unfold Gl
     rw [if_neg h8]
  .intro ⟨h1,h2,h3⟩
   have h4:StdX l n m:=⟨λj hj=>⟨h1.1 j,λh=>h1.2 j (by omega)⟩,h3⟩
   obtain ⟨a,ha,e⟩:=(hK m).2 h4
   refine List.mem_map.2 ⟨a,ha,funext λj=>?_⟩
   unfold Gl
   split
   .rename_i h8
    exact e j h8
   .exact (h1.2 j (by omega)).symm
 rw [<-hperm.length_eq,List.length_map]
def code(B:Nat):Nat->Nat->(Nat->Int)->Nat
 | 0,_,_=>0
 | k+1,i,x=>(x i).toNat+(B+1)*code B k (i+1) x
theorem VC{B:Nat}{x:Nat->Int}:∀{k i:Nat},(∀j,i<=j->j<i+k->0<=x j/\x j<=B)->code B k i x<(B+1)^k
 | 0,_,_=>by rw [Nat.pow_zero];exact Nat.one_pos
 | k+1,i,h=>by
  have h1:=h i (Nat.le_refl i) (by omega)
  have h2:=VC (B:=B) (x:=x) (k:=k) (i:=i+1) λj a b=>h j (by omega) (by omega)
  rw [code,Nat.pow_succ]
  have h3:(B+1)*(code B k (i+1) x+1)<=(B+1)*(B+1)^k:=Nat.mul_le_mul_left _ h2
  rw [Nat.mul_add,Nat.mul_one] at h3
  rw [Nat.mul_comm ((B+1)^k)]
  omega
theorem Rl{B:Nat}{x y:Nat->Int}:∀{k i:Nat},(∀j,i<=j->j<i+k->0<=x j/\x j<=B)->(∀j,i<=j->j<i+k->0<=y j/\y j<=B)->code B k i x=code B k i y->∀j,i<=j->j<i+k->x j=y j
 | 0,_,_,_,_,j,h1,h2=>by omega
 | k+1,i,hx,hy,h,j,h1,h2=>by
  have gx:=hx i (Nat.le_refl i) (by omega)
  have gy:=hy i (Nat.le_refl i) (by omega)
  rw [code,code] at h
  have hm:((x i).toNat+(B+1)*code B k (i+1) x)%(B+1)=((y i).toNat+(B+1)*code B k (i+1) y)%(B+1):=by rw [h]
  rw [Nat.add_mul_mod_self_left,Nat.add_mul_mod_self_left,Nat.mod_eq_of_lt (by omega),Nat.mod_eq_of_lt (by omega)] at hm
  rw [hm] at h
  have h3:(B+1)*code B k (i+1) x=(B+1)*code B k (i+1) y:=by omega
  have h4:=Nat.eq_of_mul_eq_mul_left (by omega) h3
  by_cases e:j=i
  .subst e
   omega
  .exact Rl (λj a b=>hx j (by omega) (by omega)) (λj a b=>hy j (by omega) (by omega)) h4 j (by omega) (by omega)
theorem LF:∀(n:Nat) (I:List Nat),I.Nodup->(∀i∈I,i<n)->I.length<=n
 | 0,[],_,_=>Nat.le_refl _
 | 0,i::I,_,h=>absurd (h i (by simp)) (Nat.not_lt_zero _)
 | n+1,I,hn,h=>by
  by_cases hm:n∈I
  .have h1:=LF n (I.erase n) (hn.erase n) λi hi=>by
    have h2:=(hn.mem_erase_iff).1 hi
    have h3:=h i h2.2
    have:=h2.1
    omega
   rw [List.length_erase_of_mem hm] at h1
   omega
  .have:=LF n I hn λi hi=>by
    have h3:=h i hi
    have:i≠n:=λe=>hm (by rw [<-e];exact hi)
    omega
   omega
theorem Ox{l K:Ai}{n B:Nat}(hn:n<=8)(hK:∀x∈K,StdX l n x)(hp:K.Pairwise λa b=>¬Eqv a b)(hB:∀x,StdX l n x->∀j,j<8->x j<=B):K.length<=(B+1)^n:=by
 have hx:∀x∈K,∀j,0<=j->j<0+n->0<=x j/\x j<=B:=λx hx j _ hj=>⟨((hK x hx).1 j (by omega)).1,hB x (hK x hx) j (by omega)⟩
 have hnd:(K.map (code B n 0)).Nodup:=by
  unfold List.Nodup
  rw [List.pairwise_map]
  refine List.Pairwise.imp_of_mem ?_ hp
  intro a b ha hb h e
  refine h λj hj=>?_
  by_cases hjn:j<n
  .exact Rl (hx a ha) (hx b hb) e j (Nat.zero_le j) (by omega)
  .rw [((hK a ha).1 j hj).2 (by omega),((hK b hb).1 j hj).2 (by omega)]
 have:=LF ((B+1)^n) _ hnd λi hi=>by
  obtain ⟨x,h1,rfl⟩:=List.mem_map.1 hi
  exact VC (hx x h1)
 rwa [List.length_map] at this
theorem MX{f g:Nat->Int}:∀{n:Nat},(∀t,t<n->f t=g t)->FM f n=FM g n
 | 0,_=>rfl
 | n+1,h=>by
  rw [FM,FM,h n (by omega),MX λt ht=>h t (by omega)]
def cS(N:Nat)(f:Nat->Int):Nat->Nat×(Nat->Int)
 | 0=>(N,f)
 | j+1=>(FM (kS (cS N f j).2 ((cS N f j).1-1)) (cS N f j).1,kS (cS N f j).2 ((cS N f j).1-1))
theorem A3d{f g:Nat->Int}{m i t:Nat}(h:∀t,t<m->f t=g t)(hi:i<m)(ht:t<=i):kS f i t=pS g t:=by
 rw [kS,if_pos ht]
 exact Cb λk hk=>h k (by omega)
theorem A04(N:Nat)(f:Nat->Int):∀j,(cS N f j).1=(cN N f j).1/\∀t,t<(cN N f j).1->(cS N f j).2 t=BU j f t
 | 0=>⟨rfl,λ_ _=>rfl⟩
 | j+1=>by
  obtain ⟨h1,h2⟩:=A04 N f j
  have h3:=Pj N f j
  have h4:∀t,t<(cN N f j).1->kS (cS N f j).2 ((cN N f j).1-1) t=pS (BU j f) t:=λt ht=>A3d h2 (by omega) (by omega)
  have h5:(cN N f (j+1)).1=FM (pS (BU j f)) (cN N f j).1:=by
   show FM (pS (cN N f j).2) _=_
   rw [h3]
  have h6:(cS N f (j+1)).1=(cN N f (j+1)).1:=by
   rw [h5]
   show FM (kS (cS N f j).2 ((cS N f j).1-1)) (cS N f j).1=_
   rw [h1]
   exact MX h4
  refine ⟨h6,λt ht=>?_⟩
  show kS (cS N f j).2 ((cS N f j).1-1) t=_
  rw [h1]
  rw [h5] at ht
  exact h4 t (Nat.lt_of_lt_of_le ht (Lj _ _))
theorem A03(N:Nat)(f:Nat->Int)(j:Nat):(cS N f j).1<=N:=by
 rw [(A04 N f j).1]
 exact Mi N f j
theorem A05{N Dg:Nat}{f:Nat->Int}{B:Int}(h:Bnd f Dg B):∀j,Bnd (cS N f j).2 Dg (B*((Dg:Int)+1)^j)
 | 0=>by rw [Int.pow_zero,Int.mul_one];exact h
 | j+1=>by
  have:=(A05 (N:=N) h j).kS ((cS N f j).1-1)
  rw [Int.pow_succ,<-Int.mul_assoc]
  exact this
theorem Zj{f f':Nat->Int}{n:Nat}(h:∀i,i<n->f i=f' i):nD n f=nD n f':=by
 unfold nD
 rw [List.map_congr_left λi hi=>by rw [h i (List.mem_range.1 hi)]]
theorem Np{B:Int}{Dg r j:Nat}(hB0:0<=B)(hB:B*((Dg:Int)+1)^r<=9223372036854775807)(hj:j<=r):B*((Dg:Int)+1)^j<=9223372036854775807:=by
 refine Int.le_trans (Int.mul_le_mul_of_nonneg_left ?_ hB0) hB
 have:(Dg+1)^j<=(Dg+1)^r:=Nat.pow_le_pow_right (by omega) hj
 exact_mod_cast this
theorem Xf(l:Ai)(n N:Nat)(f:Nat->Int)(hn:n<=1000)(cn:Abs Tryz.prog 47 [AZ l] (nD N f)):Abs Tryz.prog 58 [AZ l,ex (.int .i64 (n:Nat)),ex (.int .i64 (n:Nat))] (nD N f):=by
 refine Ab Tryz.func58 λs0=>?_
 rw [Tryz.ntmps58]
 refine Y1<|Wa<|Y0<|Y1<|Wm ?_;refine Wq (Ad (cn)) ?_;refine Wa<|Y0<|Aa<|Y1<|Wm<|Wm ?_;refine Wq DV ?_;refine Wm<|Y0<|AWp.block ?_
 refine AC (λmz σ=>∃k,k<=0/\mz=0-k/\σ=⟨[(7,.d (nD N f)),(13,.d (ex (.int .i64 ((0:Nat):Int)))),(14,.d (ex (.int .i64 (k:Nat))))],[]⟩) ?le ⟨0,by omega,rfl,rfl⟩ ?round
 case le=>exact Ah (by exact Yd<|FrLe.cons rfl (AVle.int (by omega))<|Yd<|FrLe.nil) (by exact HpLe.nil)
 case round=>
  rintro mz _ ⟨k,hk,rfl,rfl⟩
  by_cases hlt:k<0
  .omega
  .obtain rfl:k=0:=by omega
   apply Y1;refine Wq Aj ?_;refine Y0<|Aa<|Cf<|AA<|Aq<|Ar<|ABlock.hit<|Yn<|Y1<|Wm<|Wa<|Y0<|Am ?_
   exact Yf
theorem A02(l:Ai)(n d r N Dg:Nat)(f:Nat->Int)(B:Int)(hnd:n=d+r)(hn:n<=1000)(hNDg:N<=Dg+1)(hD:Dg<=100000)(hb:Bnd f Dg B)(hB:B*((Dg:Int)+1)^r<=9223372036854775807)(cn:A3K l N f):Abs Tryz.prog 58 [AZ l,ex (.int .i64 (n:Nat)),ex (.int .i64 (d:Nat))] (nD (cN N f r).1 (BU r f)):=by
 have hadd:∀j,j<r->∀i,i+1<(cS N f j).1->-9223372036854775808<=kS (cS N f j).2 i (i+1)+kS (cS N f j).2 i i/\kS (cS N f j).2 i (i+1)+kS (cS N f j).2 i i<=9223372036854775807:=λj hj i hi=>by
  have h0:=A03 N f j
  have h1:=(A05 (N:=N) hb j).sum (i+1) (by omega)
  have h2:=Np hb.pos hB (j:=j+1) (by omega)
  rw [Int.pow_succ,<-Int.mul_assoc] at h2
  rw [Fi] at h1
  rw [OY,Vq]
  omega
 refine Ab Tryz.func58 λs0=>?_
 rw [Tryz.ntmps58]
 refine Y1<|Wa<|Y0<|Y1<|Wm ?_
 refine Kk [] [] (cn) ?_
 rintro _ _ ⟨g,c,N0,hg1,hg2,hg4,hg3,rfl,rfl⟩
 refine Kr ?_
 try simp only [Bd,Bt]
 refine Wa<|Y0<|Aa<|Y1<|Wm<|Wm ?_;refine Wq DV ?_;refine Wm<|Y0<|AWp.block ?_
 refine AC (λmz σ=>∃k,k<=r/\mz=r-k/\σ=⟨[(7,.d (sX g (cS N f k).1 c)),(13,.d (ex (.int .i64 (r:Nat)))),(14,.d (ex (.int .i64 (k:Nat))))],[.dead,.dead,.dead,.dead,.dead,.dead,.dead,.obj (BN [⟨g,3,nC (cS N f k).2 N0⟩] [c*1])]⟩) ?le ⟨0,by omega,rfl,rfl⟩ ?round
 case le=>exact Ah (by exact Yd<|FrLe.cons rfl (AVle.int (by omega))<|Yd<|FrLe.nil) (by exact HpLe.cons (OwLe.dead)<|HpLe.cons (OwLe.dead)<|HpLe.cons (OwLe.dead)<|HpLe.cons (OwLe.dead)<|HpLe.cons (OwLe.dead)<|HpLe.cons (OwLe.dead)<|HpLe.cons (OwLe.dead)<|HpLe.cons (OwLe.obj rfl)<|HpLe.nil)
 case round=>
  rintro mz _ ⟨k,hk,rfl,rfl⟩
  by_cases hlt:k<r
  .have hle:=A03 N f k
   apply Y1;refine Wq Ak ?_;refine Y0<|Aa<|Ct<|Ys<|Aa<|AWp.block<|Aa<|Y1<|Wa<|Y0<|AWp.block ?_
   refine AC (λmz σ=>∃i,i<=(cS N f k).1-1/\mz=(cS N f k).1-1-i/\σ=⟨[(7,.d (sX g (cS N f k).1 c)),(13,.d (ex (.int .i64 (r:Nat)))),(14,.d (ex (.int .i64 (k:Nat)))),(8,.d (ex (.int .i64 ((i+1:Nat):Int))))],[.dead,.dead,.dead,.dead,.dead,.dead,.dead,.obj (BN [⟨g,3,nC (kS (cS N f k).2 i) N0⟩] [c*1])]⟩) ?lei ⟨0,by omega,rfl,rfl⟩ ?roundi
   case lei=>exact Ah (by exact Yd<|Yd<|Yd<|Yd<|FrLe.nil) (by exact HpLe.cons (OwLe.dead)<|HpLe.cons (OwLe.dead)<|HpLe.cons (OwLe.dead)<|HpLe.cons (OwLe.dead)<|HpLe.cons (OwLe.dead)<|HpLe.cons (OwLe.dead)<|HpLe.cons (OwLe.dead)<|HpLe.cons (OwLe.obj (by rw [Vo]))<|HpLe.nil)
   case roundi=>
    rintro mz _ ⟨i,hi,rfl,rfl⟩
    by_cases hlti:i<(cS N f k).1-1
    .have ha:=hadd k hlt i (by omega)
     have hst:SetAt (nC (kS (cS N f k).2 i) N0) ((i+1)*1) [ex (.int .i64 (kS (cS N f k).2 i (i+1)+kS (cS N f k).2 i i))] (nC (kS (cS N f k).2 (i+1)) N0):=Vp (cS N f k).2 i▸OP (by omega)
     refine Aa<|Y1<|Wm<|Wm ?_;refine Wq (Dq (ao rfl) (Ac rfl)) ?_;refine Wq Ak ?_;refine Y0<|Ct<|Ys<|Aa<|AWp.block ?_
     refine Dr [[],[],[(22,0),(23,1)],[(24,2)],[],[],[(27,5)],[(26,4),(28,6)],[(29,7)],[(25,3),(30,8)],[(22,0),(23,1)]] [[],[],[0,1],[0,1,2],[],[],[5],[4,5,6],[4,5,6,7],[0,1,2,3,4,5,6,7,8],[0,1,2,3,4,5,6,7,8,9]] ?_
     refine Xq Af ?_;refine Xq Af ?_;refine Xq (CN (k:=i+1) (ah rfl) (ah rfl) (Ac rfl) (Ac rfl) (by omega)) ?_;refine Xq (HN (e:=⟨g,3,nC (kS (cS N f k).2 i) N0⟩) 7 0 (ah rfl) rfl rfl (Ac rfl) rfl (Fj (by omega))) ?_;refine Xq Af ?_;refine Xq Af ?_;refine Xq CM ?_;refine Xq (CN (k:=i) (ah rfl) (ah rfl) (Ac rfl) (Ac rfl) (by omega)) ?_;refine Xq (HN (e:=⟨g,3,nC (kS (cS N f k).2 i) N0⟩) 7 0 (ah rfl) rfl rfl (Ac rfl) rfl (Fj (by omega))) ?_;refine Xq CC ?_;refine Xq (CN (k:=i+1) (ah rfl) (ah rfl) (Ac rfl) (Ac rfl) (by omega)) ?_;refine ⟨_,rfl,?_⟩
     refine MC (e:=⟨g,3,nC (kS (cS N f k).2 i) N0⟩) 7 0 (ao rfl) (ao rfl) rfl rfl (Ac rfl) (CH rfl) hst rfl ?_;refine AWl.nil<|Ag<|Yn<|AWp.region<|Wm ?_;refine Wq AD ?_;refine Wa<|AWl.nil ?_
     refine ALoop.next ((cS N f k).1-1-(i+1)) (by omega) ⟨i+1,by omega,rfl,rfl⟩ ?_
     exact Ah (by exact Yd<|Yd<|Yd<|Yd<|FrLe.nil) (by exact HpLe.cons (OwLe.dead)<|HpLe.cons (OwLe.dead)<|HpLe.cons (OwLe.dead)<|HpLe.cons (OwLe.dead)<|HpLe.cons (OwLe.dead)<|HpLe.cons (OwLe.dead)<|HpLe.cons (OwLe.dead)<|HpLe.cons (OwLe.obj rfl)<|HpLe.nil)
    .refine Aa<|Y1<|Wm<|Wm ?_;refine Wq (Dq (ao rfl) (Ac rfl)) ?_;refine Wq Aj ?_;refine Y0<|Cf<|AA<|Aq<|Ar<|ABlock.hit<|Yn<|AWp.region<|Wm ?_
     obtain rfl:i=(cS N f k).1-1:=by omega
     refine Kk [7] [] (PO (kS (cS N f k).2 ((cS N f k).1-1)) (cS N f k).1 N0 g c [c*1] (by omega) (by omega) (by omega)) ?_
     rintro _ _ ⟨rfl,rfl⟩
     refine Kr ?_
     try simp only [Bd,Bt]
     refine Wa<|AWl.nil<|Ag<|Yn<|AWp.region ?_;refine Wq AD ?_;refine Wm<|AWl.nil ?_
     refine ALoop.next (r-(k+1)) (by omega) ⟨k+1,by omega,rfl,rfl⟩ ?_
     exact Ah (by exact Yd<|Yd<|Yd<|FrLe.nil) (by exact HpLe.cons (OwLe.dead)<|HpLe.cons (OwLe.dead)<|HpLe.cons (OwLe.dead)<|HpLe.cons (OwLe.dead)<|HpLe.cons (OwLe.dead)<|HpLe.cons (OwLe.dead)<|HpLe.cons (OwLe.dead)<|HpLe.cons (OwLe.obj rfl)<|HpLe.nil)
  .obtain rfl:k=r:=by omega
   have h7:=A04 N f k
   have hle:=A03 N f k
   refine Ud (σ':=⟨[(7,.d (nD (cN N f k).1 (BU k f))),(13,.d (ex (.int .i64 (k:Nat)))),(14,.d (ex (.int .i64 (k:Nat))))],[]⟩) (Fu (IF 7 rfl rfl) (Fu (EM (R:=nD (cN N f k).1 (BU k f)) 7 7 rfl rfl rfl rfl λs' hs v hv=>?_) ?_)) ?_
   .rw [<-Zj (f:=(cS N f k).2) h7.2,<-h7.1]
    exact Zg (hs _ List.mem_cons_self) (by omega) (by omega) hg3 hv
   .exact Ah (by exact Yd<|Yd<|Yd<|FrLe.nil) (by exact HpLe.nil)
   apply Y1;refine Wq Aj ?_;refine Y0<|Aa<|Cf<|AA<|Aq<|Ar<|ABlock.hit<|Yn<|Y1<|Wm<|Wa<|Y0<|Am ?_
   exact Yf
section
variable {P:Program} {s0:An} {n:Nat} {ops:Array Oper} {Q:Exit->AS->Prop} {rest:List Oper} {fr:List (Nat×AV)} {hp hp':List Ow} {ty:TypeId} {ps:String} {af:Array Edge}
theorem VW{T:TypeId}{x:Operand}{d:D}{k t:Nat}(hx:AS.arg ⟨fr,hp⟩ x = .d d)(h1:One hp (.d d))(hT:Nat.beq T 136=false)(hd:Nat.blt t n=true)(hk:Fk hp=some k)(hs:Dt hp (.var T ([d].map .d))=some hp')(h:AWl P s0 n ops Q rest ⟨(t,.ptr k 0)::fr,hp'⟩):AWl P s0 n ops Q (⟨some t,.box T x,ty,ps,af,none⟩::rest) ⟨fr,hp⟩:=by
 have hT':T≠136:=Nat.ne_of_beq_eq_false hT
 rw [CI hs] at h
 have hk':=Ea hk
 subst hk'
 refine AWl.step rfl λs ρ a hst K hK=>?_
 have hv:d.rel s (a.eval x):=by
  have:=hst.arg x
  rw [hx] at this
  exact this
 have h1v:(a.eval x).oneCell'=true:=h1 0 ρ s _ hst.hp hv
 obtain ⟨u,e1⟩:∃u,a.eval x=u:=⟨_,rfl⟩
 rw [e1] at hv h1v
 have hcs:u.cells=#[u]:=by cases u<;>first | rfl | cases h1v
 have hrun:(execOp a.eval ⟨some t,.box T x,ty,ps,af,none⟩).run P s.w = .ok (.value (.pointer (some ⟨s.w.heap.size,0,none⟩))) (s.w.alloc (.cells #[u] T)):=by
  simp only [execOp,e1,Instr.box,Sem.run_bind,EI,Result.andThen_ok,Sem.run_pure,hcs]
 unfold Oper.wp
 rw [hrun]
 have hle:=s.le_mk' #[u] T 0 hT'
 refine hK _ _ _ h ⟨s.mk' #[u] T 0,_,rfl,hst.new (dst:=some t) (r:=.ptr hp.length 0) (ow:=.var T ([d].map .d)) hle (FZ (by simpa [Sn] using hd)) (u:=.pointer (some ⟨s.w.heap.size,0,none⟩)) ⟨Nat.lt_succ_self hp.length,s.w.heap.size,by simp,rfl⟩ ?_ λb hb=>by cases hb;exact Nat.le_refl _⟩
 refine ⟨s.w.heap.size,#[u],by simp,Nat.zero_le _,heap_alloc_new s.w _,by simp,hT',λk hk=>absurd (hst.ok.lt _ _ hk) (Nat.lt_irrefl _),λk av hk=>?_⟩
 cases k with
 | zero=>cases hk;exact ⟨u,by simp,h1v,d.st hv hle.chg⟩
 | succ k=>cases hk
end
theorem ZX(l:Ai)(n:Int)(cd:Abs Tryz.prog 55 [AZ l,ex (.int .i64 n)] (ex (.int .i64 (-1)))):Abs Tryz.prog 56 [AZ l,ex (.int .i64 n)] (ex (.int .i64 0)):=by
 refine Ab Tryz.func56 λs0=>?_
 rw [Tryz.ntmps56]
 refine Y1<|Wa<|Y0<|Y1<|Wm<|Wm ?_;refine Wq (Ad (cd)) ?_;refine Wa<|Y0<|Aa<|Y1<|Wm ?_;refine Wq Ak ?_;refine Y0<|Ct<|Y1<|Wa<|Y0<|Am<|AP ?_
 exact Yf
theorem ZY(l:Ai)(n:Int)(Dg M:Nat)(F:Nat->Int)(cd:Abs Tryz.prog 55 [AZ l,ex (.int .i64 n)] (ex (.int .i64 (Dg:Nat))))(cc:Abs Tryz.prog 58 [AZ l,ex (.int .i64 n),ex (.int .i64 (Dg:Nat))] (nD M F))(hM:M<=100000)(hb:∀k,k<=M->-9223372036854775808<=Ba k F/\Ba k F<=9223372036854775807):Abs Tryz.prog 56 [AZ l,ex (.int .i64 n)] (ex (.int .i64 (Ba M F))):=by
 have hD:¬((Dg:Nat):Int)<0:=by omega
 refine Ab Tryz.func56 λs0=>?_
 rw [Tryz.ntmps56]
 refine Y1<|Wa<|Y0<|Y1<|Wm<|Wm ?_;refine Wq (Ad (cd)) ?_;refine Wa<|Y0<|Aa<|Y1<|Wm ?_;refine Wq Aj ?_;refine Y0<|Cf<|Ys<|Y1<|Wa<|Y0<|Aa<|Y1<|Wm<|Wm<|Wm ?_;refine Wq (Ad (cc)) ?_;refine Wq (BX rfl (Ac rfl)) ?_;refine Wm<|Y0<|AWp.block ?_
 refine AC (λmz σ=>∃k,k<=M/\mz=M-k/\σ=⟨[(6,.d (ex (.int .i64 (Ba k F)))),(17,.d (nD M F)),(18,.d (ex (.int .i64 (M:Nat)))),(19,.d (ex (.int .i64 (k:Nat))))],[]⟩) ?le ⟨0,by omega,rfl,rfl⟩ ?round
 case le=>exact Ah (by exact Yd<|Yd<|Yd<|Yd<|FrLe.nil) (by exact HpLe.nil)
 case round=>
  rintro mz _ ⟨k,hk,rfl,rfl⟩
  by_cases hlt:k<M
  .have h1:=hb (k+1) hlt
   rw [Ba] at h1
   apply Y1;refine Wq Ak ?_;refine Y0<|Aa<|Ct<|Ys<|Aa<|AWp.block<|Y1 ?_;refine Wq (FI (k:=k) rfl (ao rfl) (Ac rfl) (Ac rfl) rfl hlt) ?_;refine Wq CA ?_;refine Wa<|Y0<|AWp.region<|Wm<|Wm ?_;refine Wq CC ?_;refine Wa<|AWl.nil<|Ag<|Yn<|AWp.region ?_;refine Wq AD ?_;refine Wm<|AWl.nil ?_
   refine ALoop.next (M-(k+1)) (by omega) ⟨k+1,by omega,rfl,rfl⟩ ?_
   exact Ah (by exact Yd<|Yd<|Yd<|Yd<|FrLe.nil) (by exact HpLe.nil)
  .obtain rfl:k=M:=by omega
   apply Y1;refine Wq Aj ?_;refine Y0<|Aa<|Cf<|AA<|Aq<|Ar<|ABlock.hit<|Yn<|Y1<|Wm<|Wa<|Y0<|Am ?_
   exact Yf
theorem Of(l:Ai)(n d:Int)(ck:Abs Tryz.prog 46 [AZ l,ex (.int .i64 n)] (ex (.int .i64 0)))(cd:Abs Tryz.prog 55 [AZ l,ex (.int .i64 n)] (ex (.int .i64 d))):Abs Tryz.prog 22 [AZ l,ex (.int .i64 n)] (BC [ex (.int .i64 d),ex (.int .i64 0)]):=by
 refine Ab Tryz.func22 λs0=>?_
 rw [Tryz.ntmps22]
 refine Y1<|Wa<|Wa<|Y0<|Aa<|Y1<|Wm<|Wm ?_;refine Wq (Ad (ck)) ?_;refine Wa<|Y0<|Y1<|Wm ?_;refine Wq Aj ?_;refine Y0<|Cf<|Ys<|Y1<|Wm<|Wm ?_;refine Wq (Ad (cd)) ?_;refine Wa<|Wa<|Y0<|Am ?_
 exact AN (BA (ResV.tmp rfl rfl) (ResV.tmp rfl rfl) (Be (D.le.refl _) (D.le.refl _)))
theorem Sb(l:Ai)(n d:Int)(ck:Abs Tryz.prog 46 [AZ l,ex (.int .i64 n)] (ex (.int .i64 0)))(cd:Abs Tryz.prog 56 [AZ l,ex (.int .i64 n)] (ex (.int .i64 d))):Abs Tryz.prog 24 [AZ l,ex (.int .i64 n)] (BC [ex (.int .i64 d),ex (.int .i64 0)]):=by
 refine Ab Tryz.func24 λs0=>?_
 rw [Tryz.ntmps24]
 refine Y1<|Wa<|Wa<|Y0<|Aa<|Y1<|Wm<|Wm ?_;refine Wq (Ad (ck)) ?_;refine Wa<|Y0<|Y1<|Wm ?_;refine Wq Aj ?_;refine Y0<|Cf<|Ys<|Y1<|Wm<|Wm ?_;refine Wq (Ad (cd)) ?_;refine Wa<|Wa<|Y0<|Am ?_
 exact AN (BA (ResV.tmp rfl rfl) (ResV.tmp rfl rfl) (Be (D.le.refl _) (D.le.refl _)))
theorem Ua(l:Ai)(n d:Int)(hd:d<0\/64<d)(ck:Abs Tryz.prog 46 [AZ l,ex (.int .i64 n)] (ex (.int .i64 0))):Abs Tryz.prog 16 [AZ l,ex (.int .i64 n),ex (.int .i64 d)] (BC [ex (.int .i64 0),ex (.int .i64 1)]):=by
 rcases hd with hd | hd
 .refine Ab Tryz.func16 λs0=>?_
  rw [Tryz.ntmps16]
  refine Y1<|Wa<|Wa<|Y0<|Aa<|Y1<|Wm<|Wm ?_;refine Wq (Ad (ck)) ?_;refine Wa<|Y0<|Y1<|Wm ?_;refine Wq Aj ?_;refine Y0<|Cf<|Ys<|Aa<|Y1<|Wm ?_;refine Wq Ak ?_;refine Wm ?_;refine Ws ?_;refine Ws ?_;refine Wq AM ?_;refine Y0<|Ct<|Y1<|Wa<|Wa<|Y0<|Am<|AP ?_
  exact AN (BA (ResV.tmp rfl rfl) (ResV.tmp rfl rfl) (Be (D.le.refl _) (D.le.refl _)))
 .have h0:¬d<0:=by omega
  refine Ab Tryz.func16 λs0=>?_
  rw [Tryz.ntmps16]
  refine Y1<|Wa<|Wa<|Y0<|Aa<|Y1<|Wm<|Wm ?_;refine Wq (Ad (ck)) ?_;refine Wa<|Y0<|Y1<|Wm ?_;refine Wq Aj ?_;refine Y0<|Cf<|Ys<|Aa<|Y1<|Wm ?_;refine Wq Aj ?_;refine Wm ?_;refine Wg Af ?_;refine Wg Ak ?_;refine Wq Bc ?_;refine Y0<|Ct<|Y1<|Wa<|Wa<|Y0<|Am<|AP ?_
  exact AN (BA (ResV.tmp rfl rfl) (ResV.tmp rfl rfl) (Be (D.le.refl _) (D.le.refl _)))
theorem NO(l:Ai)(n d:Int)(hd:0<d)(ck:Abs Tryz.prog 46 [AZ l,ex (.int .i64 n)] (ex (.int .i64 0)))(cd:Abs Tryz.prog 55 [AZ l,ex (.int .i64 n)] (ex (.int .i64 d))):Abs Tryz.prog 28 [AZ l,ex (.int .i64 n)] (BC [ex (.slice none 0 0),ex (.int .i64 160)]):=by
 refine Ab Tryz.func28 λs0=>?_
 rw [Tryz.ntmps28]
 apply Y1;refine VW (ao rfl) One.sl rfl rfl rfl rfl ?_;refine VX (ao rfl) rfl rfl rfl rfl rfl ?_;refine Wa<|Wa<|Y0<|Aa<|Y1 ?_;refine Wq AQ ?_;refine Wq AQ ?_;refine Wq (Ad (ck)) ?_;refine Wa<|Y0<|Y1<|Wm ?_;refine Wq Aj ?_;refine Y0<|Cf<|Ys<|Aa<|Y1 ?_;refine Wq AQ ?_;refine Wq AQ ?_;refine Wq (Ad (cd)) ?_;refine Wq Ak ?_;refine Y0<|Ct<|Y1<|Wa<|Wa<|Y0<|Am<|AP ?_
 exact AN (BA (ResV.tmp rfl rfl) (ResV.tmp rfl rfl) (Be (D.le.refl _) (D.le.refl _)))
abbrev uSt(s:Nat):Ow:=.var 5 [.d (ex (.int .u8 (s:Nat)))]
def Ka(s t:Nat):Bool:=(s != t)&&IS s t
theorem QS(s t:Nat)(hs:s<256)(ht:t<256):Con Tryz.prog 54 [.d (ex (.int .u8 (t:Nat))),.ptr 0 0] [uSt s] [] (λr hp'=>r = .d (ex (.bool (Ka s t)))/\hp'=[uSt s,.dead]):=by
 by_cases h:s=t
 .subst h
  have e:Ka s s=false:=by simp [Ka]
  rw [e]
  refine BK Tryz.func54 rfl (Az Tryz.func54 (by kernel_rfl) (by kernel_rfl)) rfl λs0 pv0=>?_
  rw [Tryz.ntmps54]
  refine Y1<|Wa<|Y0<|Y1 ?_;refine Wq HJ ?_;refine Wm ?_;refine Wq Aj ?_;refine Wm ?_;refine Ws ?_;refine Ws ?_;refine Ws ?_;refine Ws ?_;refine Wq Bc ?_;refine Wa<|Y0<|Am ?_
  refine Bv (RetsA.one rfl) rfl ?_ rfl
  exact ⟨rfl,rfl⟩
 .have h1:¬((s:Nat):Int)=((t:Nat):Int):=by omega
  have e:Ka s t=IS s t:=by simp [Ka,h]
  rw [e]
  refine BK Tryz.func54 rfl (Az Tryz.func54 (by kernel_rfl) (by kernel_rfl)) rfl λs0 pv0=>?_
  rw [Tryz.ntmps54]
  refine Y1<|Wa<|Y0<|Y1 ?_;refine Wq HJ ?_;refine Wm ?_;refine Wq Ak ?_;refine Wm ?_;refine Wg HJ ?_;refine Wg Af ?_;refine Wg (RV (a:=s) (b:=t) (ao rfl) (ao rfl) hs ht) ?_;refine Wg TF ?_;refine Wq AM ?_;refine Wa<|Y0<|Am ?_
  refine Bv (RetsA.one rfl) rfl ?_ rfl
  exact ⟨rfl,rfl⟩
theorem TU(L:List Nat)(s z:Nat)(hs:s<256)(hL:∀k,k<L.length->L.getD k default<256)(hl:L.length<=1000)(hz:z<=L.length)(hp:∀k,k<z->Ka s (L.getD k default)=false)(he:z<L.length->Ka s (L.getD z default)=true):Con Tryz.prog 103 [.d (Oo L),.fn 54 [0]] [uSt s] [] (λr hp'=>r = .d (ex (.int .i64 (if z<L.length then (z:Nat) else -1)))/\∃tl,hp'=uSt s :: .dead::tl/\(tl=[]\/tl=[.dead])):=by
 refine BK Tryz.func103 rfl (Az Tryz.func103 (by kernel_rfl) (by kernel_rfl)) rfl λs0 pv0=>?_
 rw [Tryz.ntmps103]
 refine Y1<|Wa<|Y0<|Aa<|Y1<|Wm ?_;refine Wq AR ?_;refine Wm<|Y0<|AWp.block ?_
 refine AC (λmz σ=>∃k,k<=z/\mz=z-k/\σ=⟨[(0,.d (Oo L)),(1,.fn 54 [0]),(6,.d (Oo L)),(7,.d (ex (.int .i64 (L.length:Nat)))),(8,.d (ex (.int .i64 (k:Nat))))],[uSt s,.pin [(pv0,.own 0)]]⟩) ?le ⟨0,by omega,rfl,rfl⟩ ?round
 case le=>exact Ah (by exact Yd<|FrLe.cons rfl (AVle.fn rfl)<|Yd<|Yd<|Yd<|FrLe.nil) (by exact HpLe.cons (Ce rfl)<|HpLe.cons (Bi rfl)<|HpLe.nil)
 case round=>
  rintro mz _ ⟨k,hk,rfl,rfl⟩
  by_cases hlt:k<z
  .have hlt':k<L.length:=by omega
   have hk:=hp k hlt
   apply Y1;refine Wq Ak ?_;refine Y0<|Aa<|Ct<|Ys<|Aa<|AWp.block<|Y1<|Wm<|Wa<|Y0<|Y1<|Wm<|Wm<|Wm ?_;refine Wq AE ?_;refine Wq CA ?_
   refine Kk [0] [0] (QS s (L.getD k default) hs (hL k hlt')) ?_
   rintro _ _ ⟨rfl,rfl⟩
   refine Kr ?_
   try simp only [Bd,Bt]
   rw [hk]
   refine Y0<|Cf<|AWp.skip<|Ag<|Yn<|AWp.region ?_;refine Wq AD ?_;refine Wm<|AWl.nil ?_
   refine ALoop.next (z-(k+1)) (by omega) ⟨k+1,by omega,rfl,rfl⟩ ?_
   exact Ah (by exact Yd<|FrLe.cons rfl (AVle.fn rfl)<|Yd<|Yd<|Yd<|FrLe.nil) (by exact HpLe.cons (Ce rfl)<|HpLe.cons (Bi rfl)<|HpLe.nil)
  .obtain rfl:k=z:=by omega
   by_cases hlt:k<L.length
   .have hk:=he hlt
    apply Y1;refine Wq Ak ?_;refine Y0<|Aa<|Ct<|Ys<|Aa<|AWp.block<|Y1<|Wm<|Wa<|Y0<|Y1<|Wm<|Wm<|Wm ?_;refine Wq AE ?_;refine Wq CA ?_
    refine Kk [0] [0] (QS s (L.getD k default) hs (hL k hlt)) ?_
    rintro _ _ ⟨rfl,rfl⟩
    refine Kr ?_
    try simp only [Bd,Bt]
    rw [hk]
    refine Y0<|Ct<|Y1<|Wm<|Wa<|Y0<|Am<|Bw<|AP<|Di<|Bw<|AP ?_
    refine Bv (RetsA.one rfl) rfl ?_ rfl
    exact ⟨by rw [if_pos hlt],_,rfl,.inr rfl⟩
   .apply Y1;refine Wq Aj ?_;refine Y0<|Aa<|Cf<|AA<|Aq<|Ar<|ABlock.hit<|Yn<|Y1<|Wa<|Y0<|Am ?_
    refine Bv (RetsA.one rfl) rfl ?_ rfl
    exact ⟨by rw [if_neg hlt],_,rfl,.inl rfl⟩
theorem A0b(p:Nat->Bool)(l:List Nat):∃z,z<=l.length/\(∀k,k<z->p (l.getD k default)=false)/\(z<l.length->p (l.getD z default)=true)/\l.any p=decide (z<l.length):=by
 induction l with
 | nil=>exact ⟨0,Nat.le_refl 0,λk hk=>absurd hk (by omega),λh=>absurd h (by simp),rfl⟩
 | cons a l ih=>
  cases ha:p a with
  | true=>exact ⟨0,by simp,λk hk=>absurd hk (by omega),λ_=>ha,by simp [ha]⟩
  | false=>
   obtain ⟨z,h1,h2,h3,h4⟩:=ih
   refine ⟨z+1,by simpa using h1,λk hk=>?_,λh=>h3 (by simpa using h),by simp [ha,h4]⟩
   cases k with
   | zero=>exact ha
   | succ k=>exact h2 k (by omega)
theorem XV(L:List Nat)(s:Nat)(hs:s<256)(hL:∀k,k<L.length->L.getD k default<256)(hl:L.length<=1000):Con Tryz.prog 53 [.d (Oo L),.fn 54 [0]] [uSt s] [] (λr hp'=>r = .d (ex (.bool (L.any (Ka s))))/\hp'=[uSt s,.dead,.dead]):=by
 obtain ⟨z,h1,h2,h3,h4⟩:=A0b (Ka s) L
 rw [h4]
 have c:=(TU L s z hs hL hl h1 h2 h3).mono (Q':=λr hp'=>r = .d (ex (.int .i64 (if z<L.length then (z:Nat) else -1)))/\∃tl,hp'=uSt s :: .dead::tl) λr hp' ⟨q1,tl,q2,_⟩=>⟨q1,tl,q2⟩
 have c:=Sc (s:=s) c
 by_cases hz:z<L.length
 .rw [if_pos hz] at c
  rw [decide_eq_true hz]
  refine BK Tryz.func53 rfl (Az Tryz.func53 (by kernel_rfl) (by kernel_rfl)) rfl λs0 pv0=>?_
  rw [Tryz.ntmps53]
  refine Y1<|Wa<|Y0<|Y1<|Wm<|Wm ?_
  refine Kk [0] [] (c) ?_
  rintro _ _ ⟨rfl,rfl⟩
  refine Kr ?_
  try simp only [Bd,Bt]
  refine Wq Ak ?_;refine Wa<|Y0<|Am ?_
  refine Bv (RetsA.one rfl) rfl ?_ rfl
  exact ⟨rfl,rfl⟩
 .rw [if_neg hz] at c
  rw [decide_eq_false hz]
  refine BK Tryz.func53 rfl (Az Tryz.func53 (by kernel_rfl) (by kernel_rfl)) rfl λs0 pv0=>?_
  rw [Tryz.ntmps53]
  refine Y1<|Wa<|Y0<|Y1<|Wm<|Wm ?_
  refine Kk [0] [] (c) ?_
  rintro _ _ ⟨rfl,rfl⟩
  refine Kr ?_
  try simp only [Bd,Bt]
  refine Wq Aj ?_;refine Wa<|Y0<|Am ?_
  refine Bv (RetsA.one rfl) rfl ?_ rfl
  exact ⟨rfl,rfl⟩
theorem Od(l:Ai)(n:Nat)(hn:n<=8)(hl:l.length<=1000)(ck:Abs Tryz.prog 46 [AZ l,ex (.int .i64 (n:Nat))] (ex (.int .i64 0))):Abs Tryz.prog 18 [AZ l,ex (.int .i64 (n:Nat))] (BC [Oo (GJ l (2^n)),ex (.int .i64 0)]):=by
 have h256:=SI hn
 have ci:=NB l n hn hl
 have hL:∀k,k<(DJ l (2^n)).length->(DJ l (2^n)).getD k default<256:=λk hk=>by
  have:(DJ l (2^n)).getD k default∈DJ l (2^n):=by
   rw [List.getD_eq_getElem?_getD,List.getElem?_eq_getElem hk]
   exact List.getElem_mem hk
  have:=Vr this
  omega
 have hlen:=KV l (2^n)
 unfold GJ
 generalize DJ l (2^n)=L at ci hL hlen ⊢
 have hfl:∀k,((L.take k).filter λs=>!L.any (Ka s)).length<=k:=λk=>by
  have h1:=List.length_filter_le (λs=>!L.any (Ka s)) (L.take k)
  rw [List.length_take] at h1
  omega
 refine Ab Tryz.func18 λs0=>?_
 rw [Tryz.ntmps18]
 refine Y1<|Wa<|Wa<|Y0<|Aa<|Y1<|Wm<|Wm ?_;refine Wq (Ad (ck)) ?_;refine Wa<|Y0<|Y1<|Wm ?_;refine Wq Aj ?_;refine Y0<|Cf<|Ys<|Y1<|Wm<|Wm ?_;refine Wq (Ad (ci)) ?_;refine Wa<|Y0<|Y1<|Wa<|Y0<|Aa<|Y1<|Wm ?_;refine Wq AR ?_;refine Wm<|Y0<|AWp.block ?_
 refine GF 8 5 1 rfl (by decide) (by decide) rfl rfl ?_
 skip
 refine AC (λmz σ=>∃k,k<=L.length/\mz=L.length-k/\σ=⟨[(7,.d (Oo L)),(8,.own 0),(20,.d (Oo L)),(21,.d (ex (.int .i64 (L.length:Nat)))),(22,.d (ex (.int .i64 (k:Nat))))],[.row 5 1 (((L.take k).filter λs=>!L.any (Ka s)).map λs=>[ex (.int .u8 (s:Nat))])]⟩) ?le ⟨0,by omega,rfl,rfl⟩ ?round
 case le=>exact Ah (by exact Yd<|FrLe.cons rfl (AVle.own rfl)<|Yd<|Yd<|Yd<|FrLe.nil) (by exact Yr<|HpLe.nil)
 case round=>
  rintro mz _ ⟨k,hk,rfl,rfl⟩
  by_cases hlt:k<L.length
  .have hk:=hL k hlt
   have hle:=hfl k
   apply Y1;refine Wq Ak ?_;refine Y0<|Aa<|Ct<|Ys<|Aa<|AWp.block<|Y1 ?_;refine Wq AE ?_;refine Wq CA ?_;refine Al ?_;refine JF (ao rfl) (ao rfl) rfl (Ac rfl) (by first | exact CH rfl | exact One.sl | exact Ei) rfl rfl ?_;refine Y0<|Y1<|Wm ?_;refine Wq (FW [1] rfl) ?_
   refine Kk [1] [] (XV L (L.getD k default) hk hL (by omega)) ?_
   rintro _ _ ⟨rfl,rfl⟩
   refine Kr ?_
   try simp only [Bd,Bt,UI]
   cases hb:L.any (Ka (L.getD k default)) with
   | true=>
    refine Wq BH ?_;refine Y0<|Cf<|AWp.skip<|Ag<|Yn<|AWp.region ?_;refine Wq AD ?_;refine Wm<|AWl.nil ?_
    refine ALoop.next (L.length-(k+1)) (by omega) ⟨k+1,by omega,rfl,rfl⟩ ?_
    exact Ah (by exact Yd<|FrLe.cons rfl (AVle.own rfl)<|Yd<|Yd<|Yd<|FrLe.nil) (by (refine HpLe.cons (Ca (by rw [JI hlt,List.filter_append,List.filter_cons,hb];simp)) ?_);exact HpLe.nil)
   | false=>
    refine Wq BH ?_;refine Y0<|Ct<|AWp.region<|Wm ?_;refine Wq AQ ?_;(refine CD rfl rfl ?_;(refine Cl (Ac rfl) (Ac rfl) rfl rfl rfl rfl rfl ?_;(repeat ((first | refine ⟨_,AW (ao rfl),?_⟩ | refine ⟨_,Po rfl,?_⟩);refine ⟨_,rfl,?_⟩));refine ⟨_,rfl,?_⟩));(refine GE (ao rfl) rfl rfl (Ac rfl) (Ac rfl) rfl rfl (by simp [Bo];omega) (by simp [Bo];omega) rfl (by first | ((repeat (first | exact PlainHp.nil | refine PlainHp.var ?_ | refine Ck ?_ | refine PlainHp.dead ?_ | refine PlainHp.obj ?_ | refine PlainHp.pin rfl ?_ | refine BY rfl ?_));done) | fail) rfl ?_);refine Wa<|AWl.nil<|Ag<|Yn<|AWp.region ?_;refine Wq AD ?_;refine Wm<|AWl.nil ?_
    refine ALoop.next (L.length-(k+1)) (by omega) ⟨k+1,by omega,rfl,rfl⟩ ?_
    exact Ah (by exact Yd<|FrLe.cons rfl (AVle.own rfl)<|Yd<|Yd<|Yd<|FrLe.nil) (by (refine HpLe.cons (Ca (by rw [JI hlt,List.filter_append,List.filter_cons,hb];exact On _ _)) ?_);exact HpLe.nil)
  .obtain rfl:k=L.length:=by omega
   apply Y1;refine Wq Aj ?_;refine Y0<|Aa<|Cf<|AA<|Aq<|Ar<|ABlock.hit<|Yn<|Y1<|Wm<|Wa<|Wa<|Y0<|Am ?_
   rw [List.take_length]
   exact AN (BA (ResV.tmp rfl rfl) (ResV.tmp rfl rfl) (Be (D.le.refl _) (D.le.refl _)))
def BV(F:Nat->Rat)(j:Nat):List D:=BT (F j)
theorem Fy(F:Nat->Rat)(j:Nat):(BV F j).length=4:=Eu _
def BP(n:Nat)(F:Nat->Rat):D:=rD 71 4 (BV F) n
def zz:List D:=[ex (.bool false),ex (.slice none 0 0),ex (.bool false),ex (.slice none 0 0)]
abbrev q0:Rat:=((0:Int):Rat)
def zF(k j:Nat):List D:=if j<k then BT q0 else zz
theorem A2R(k j:Nat):(zF k j).length=4:=by
 unfold zF
 split
 .exact Eu _
 .rfl
theorem A4R:zF 0=λ_=>zz:=funext λj=>if_neg (by omega)
theorem A2Q(k:Nat):Yg (zF k) k (BT q0)=zF (k+1):=by
 funext j
 unfold Yg zF
 by_cases h:j=k
 .rw [if_pos h,if_pos (by omega)]
 .rw [if_neg h]
  by_cases h2:j<k
  .rw [if_pos h2,if_pos (by omega)]
  .rw [if_neg h2,if_neg (by omega)]
theorem A2S(n:Nat):flF (zF n) n=flF (BV λ_=>q0) n:=WQ λj hj=>if_pos hj
theorem Lg(n:Nat)(hn:n<=100000):Con Tryz.prog 113 [.d (ex (.int .i64 (n:Nat)))] [] [] (λr hp'=>∃g,r = .d (sX g n n)/\hp'=[.dead,.obj (By [⟨g,71,flF (BV λ_=>q0) n⟩])]):=by
 refine GD Tryz.func113 rfl (Az Tryz.func113 (by kernel_rfl) (by kernel_rfl)) rfl λs0=>?_
 rw [Tryz.ntmps113]
 refine Y1<|Wa<|Y0<|Y1<|Wm ?_;refine A2m (sz:=4) (c:=n) (ao rfl) (ao rfl) (Ac rfl) (Ac rfl) rfl (by decide) rfl (by omega) rfl rfl rfl rfl (λg=>rfl) λg=>?_;refine Wa<|Y0<|Aa<|Y1<|Wm<|Wm<|Y0<|AWp.block ?_
 refine AC (λmz σ=>∃k,k<=n/\mz=n-k/\σ=⟨[(3,.d (sX g n n)),(7,.d (ex (.int .i64 (n:Nat)))),(8,.d (ex (.int .i64 (k:Nat))))],[.pin [],.obj (By [⟨g,71,flF (zF k) n⟩])]⟩) ?le ⟨0,by omega,rfl,rfl⟩ ?round
 case le=>exact Ah (by exact Yd<|Yd<|Yd<|FrLe.nil) (by refine HpLe.cons (Bi rfl) ?_;(refine HpLe.cons (OwLe.obj (by rw [A4R];rfl)) ?_);exact HpLe.nil)
 case round=>
  rintro mz _ ⟨k,hk,rfl,rfl⟩
  by_cases hlt:k<n
  .have hst:SetAt (flF (zF k) n) (k*4) (BT q0) (flF (zF (k+1)) n):=A2Q k▸SetAt.flF (A2R k) (Eu _) hlt
   apply Y1;refine Wq Ak ?_;refine Y0<|Aa<|Ct<|Ys<|Aa<|AWp.block<|Y1<|Wm<|Wa<|Y0<|AWp.region<|Wm<|Wm ?_;refine Wq (Ad (Ip 0 (by omega) (by omega))) ?_;refine Wq (CN (k:=k) (ao rfl) (ao rfl) (Ac rfl) (Ac rfl) hlt) ?_;refine VV (e:=⟨g,71,flF (zF k) n⟩) 1 0 (ao rfl) (ao rfl) rfl rfl (Ac rfl) rfl hst rfl ?_;refine AWl.nil<|Ag<|Yn<|AWp.region ?_;refine Wq AD ?_;refine Wm<|AWl.nil ?_
   refine ALoop.next (n-(k+1)) (by omega) ⟨k+1,by omega,rfl,rfl⟩ ?_
   exact Ah (by exact Yd<|Yd<|Yd<|FrLe.nil) (by exact HpLe.cons (Bi rfl)<|HpLe.cons (OwLe.obj rfl)<|HpLe.nil)
  .obtain rfl:k=n:=by omega
   apply Y1;refine Wq Aj ?_;refine Y0<|Aa<|Cf<|AA<|Aq<|Ar<|ABlock.hit<|Yn<|Y1<|Wm<|Wa<|Y0<|Am ?_
   refine Bv (RetsA.one rfl) rfl ?_ rfl
   exact ⟨g,rfl,by rw [A2S]⟩
section
variable {P:Program} {hp:List Ow} {arg:Operand->AV} {dd:Option Tmp} {ty:TypeId} {ps:String} {af:Array Edge} {gd:Option (Nat×Bool)}
theorem YL{r k:Nat}(h:k<r):(List.range r).getD k default=k:=by
 rw [List.getD_eq_getElem?_getD,List.getElem?_range h];rfl
theorem FH{x y:Operand}{t:TypeId}{e n b n' b' T sz r k:Nat}{d:TypeDesc}{z z':Value}{F:Nat->List D}{κ:IntKind}(hx:Ed hp (arg x)=some (rD T sz F r))(hy:arg y = .d (ex (.int κ ((k:Nat):Int))))(ht:Tab P t (.slice e) n b z)(he:Tab P e d n' b' z')(hsz:n'=sz)(hk:k<r):Quiet P hp ⟨dd,.indexAddr t x y,ty,ps,af,gd⟩ arg (.d (Iw T (F k))):=by
 have:=HO (dd:=dd) (ty:=ty) (ps:=ps) (af:=af) (gd:=gd) hx hy ht he hsz (by simpa using hk)
 rwa [YL hk] at this
theorem Cc{x:Operand}{t:TypeId}{e n b T sz r:Nat}{z:Value}{F:Nat->List D}(hx:Ed hp (arg x)=some (rD T sz F r))(ht:Tab P t (.slice e) n b z):Quiet P hp ⟨dd,.call { callee:=.builtin .len,args:=#[x],argTypes:=#[t] },ty,ps,af,gd⟩ arg (.d (ex (.int .i64 (r:Nat)))):=by
 have:=JB (dd:=dd) (ty:=ty) (ps:=ps) (af:=af) (gd:=gd) hx ht
 rwa [List.length_range] at this
end
def EX(H:Nat->Rat)(c:Rat)(G:Nat->Rat)(k i j:Nat):Rat:=if k<=j/\j<k+i then H j+c*G (j-k) else H j
theorem NL(H:Nat->Rat)(c:Rat)(G:Nat->Rat)(k:Nat):EX H c G k 0=H:=funext λj=>if_neg (by omega)
theorem VG(H:Nat->Rat)(c:Rat)(G:Nat->Rat)(k i:Nat):EX H c G k i (i+k)=H (i+k):=if_neg (by omega)
theorem Xj(H:Nat->Rat)(c:Rat)(G:Nat->Rat)(k i:Nat):Yg (BV (EX H c G k i)) (i+k) (BT (EX H c G k i (i+k)+c*G i))=BV (EX H c G k (i+1)):=by
 funext j
 unfold Yg BV
 by_cases h:j=i+k
 .subst h
  rw [if_pos rfl,VG,EX,if_pos (by omega),show i+k-k=i by omega]
 .rw [if_neg h,EX,EX]
  by_cases h2:k<=j/\j<k+i
  .rw [if_pos h2,if_pos (by omega)]
  .rw [if_neg h2,if_neg (by omega)]
theorem NM{H:Nat->Rat}{c:Rat}{G:Nat->Rat}{k i:Nat}(h:c=0\/G i=0):EX H c G k i=EX H c G k (i+1):=by
 funext j
 unfold EX
 by_cases h2:k<=j/\j<k+i
 .rw [if_pos h2,if_pos (by omega)]
 .rw [if_neg h2]
  split
  .have e:j-k=i:=by omega
   rw [e]
   rcases h with h | h
   .rw [h,Rat.zero_mul,Rat.add_zero]
   .rw [h,Rat.mul_zero,Rat.add_zero]
  .rfl
theorem NN{H:Nat->Rat}{c:Rat}{G:Nat->Rat}{k:Nat}(h:c=0):∀i,EX H c G k i=H
 | 0=>NL H c G k
 | i+1=>by rw [<-NM (.inl h),NN h i]
theorem Dy{q:Rat}:q.num.sign=0↔q=0:=by
 rw [Int.sign_eq_zero_iff_zero,Rat.num_eq_zero]
theorem Rq(g n cap m k S1 S2 S3:Nat)(H G:Nat->Rat)(c:Rat)(hH:∀j,RSz (H j) S1)(hc:RSz c S2)(hG:∀j,RSz (G j) S3)(hS:S1+(S2+S3)+1<=4398046511104)(hk:k+m<=n)(hn:n<=100000):Con Tryz.prog 114 [.d (sX g n cap),.d (Bb (BT c)),.d (BP m G),.d (ex (.int .i64 (k:Nat)))] [.obj (By [⟨g,71,flF (BV H) n⟩])] [] (λr hp'=>r = .d Cp/\hp'=[.obj (By [⟨g,71,flF (BV (EX H c G k m)) n⟩]),.dead,.var 71 ((BT c).map .d)]):=by
 by_cases h0:c=0
 .rw [NN h0]
  have hs:c.num.sign=0:=Dy.2 h0
  refine BK Tryz.func114 rfl (Az Tryz.func114 (by kernel_rfl) (by kernel_rfl)) rfl λs0 pv0=>?_
  rw [Tryz.ntmps114]
  apply Y1;refine Bx ?_;refine Y0<|Aa<|Y1 ?_;refine Wq At ?_;refine Wq (Ad (Ev c)) ?_;refine Wq Ak ?_;refine Y0<|Ct<|Am<|AP ?_
  refine Bv EL rfl ?_ rfl
  exact ⟨rfl,rfl⟩
 .have hs:¬c.num.sign=0:=λh=>h0 (Dy.1 h)
  refine BK Tryz.func114 rfl (Az Tryz.func114 (by kernel_rfl) (by kernel_rfl)) rfl λs0 pv0=>?_
  rw [Tryz.ntmps114]
  apply Y1;refine Bx ?_;refine Y0<|Aa<|Y1 ?_;refine Wq At ?_;refine Wq (Ad (Ev c)) ?_;refine Wq Aj ?_;refine Y0<|Cf<|Ys<|Y1<|Wm ?_;refine Wq (Cc (F:=BV G) rfl (Ac rfl)) ?_;refine Wm<|Y0<|AWp.block ?_
  refine AC (λmz σ=>∃i,i<=m/\mz=m-i/\σ=⟨[(0,.d (sX g n cap)),(3,.d (ex (.int .i64 (k:Nat)))),(5,.ptr 2 0),(13,.d (BP m G)),(14,.d (ex (.int .i64 (m:Nat)))),(15,.d (ex (.int .i64 (i:Nat))))],[.obj (By [⟨g,71,flF (BV (EX H c G k i)) n⟩]),.pin [(pv0,.own 0)],.var 71 ((BT c).map .d)]⟩) ?lei ⟨0,by omega,rfl,rfl⟩ ?roundi
  case lei=>exact Ah (by exact Yd<|Yd<|Yp<|Yd<|Yd<|Yd<|FrLe.nil) (by exact HpLe.cons (OwLe.obj (by rw [NL]))<|HpLe.cons (Bi rfl)<|Yv<|HpLe.nil)
  case roundi=>
   rintro mz _ ⟨i,hi,rfl,rfl⟩
   by_cases hlti:i<m
   .have hz:RSz (EX H c G k i (i+k)) S1:=by rw [VG]; exact hH _
    have hst:SetAt (flF (BV (EX H c G k i)) n) ((i+k)*4) (BT (EX H c G k i (i+k)+c*G i)) (flF (BV (EX H c G k (i+1))) n):=Xj H c G k i▸SetAt.flF (Fy _) (Eu _) (by omega)
    by_cases hgz:G i=0
    .have hgs:(G i).num.sign=0:=Dy.2 hgz
     apply Y1;refine Wq Ak ?_;refine Y0<|Aa<|Ct<|Ys<|Aa<|AWp.block<|Y1<|Wm ?_;refine Wq (FH (F:=BV G) (k:=i) rfl (ao rfl) (Ac rfl) (Ac rfl) rfl hlti) ?_;refine Wq AB ?_;refine Al ?_;refine Wa ?_;refine Sf ?_;refine Y0<|Y1 ?_;refine Wq At ?_;refine Wq (Ad (Ev (G i))) ?_;refine Wq Aj ?_;refine Y0<|Cf<|AWp.skip<|Ag<|Yn<|AWp.region ?_;refine Wq AD ?_;refine Wm<|AWl.nil ?_
     refine ALoop.next (m-(i+1)) (by omega) ⟨i+1,by omega,rfl,rfl⟩ ?_
     exact Ah (by exact Yd<|Yd<|Yp<|Yd<|Yd<|Yd<|FrLe.nil) (by refine HpLe.cons (OwLe.obj (by rw [NM (.inr hgz)])) ?_;exact HpLe.cons (Bi rfl)<|Yv<|HpLe.nil)
    .have hgs:¬(G i).num.sign=0:=λh=>hgz (Dy.1 h)
     apply Y1;refine Wq Ak ?_;refine Y0<|Aa<|Ct<|Ys<|Aa<|AWp.block<|Y1<|Wm ?_;refine Wq (FH (F:=BV G) (k:=i) rfl (ao rfl) (Ac rfl) (Ac rfl) rfl hlti) ?_;refine Wq AB ?_;refine Al ?_;refine Wa ?_;refine Sf ?_;refine Y0<|Y1 ?_;refine Wq At ?_;refine Wq (Ad (Ev (G i))) ?_;refine Wq Ak ?_;refine Y0<|Ct ?_
     refine Dr [[],[],[],[(24,1),(25,2)],[],[],[],[(28,5),(29,6)],[(27,4),(30,7)],[(31,8)],[],[],[(33,10),(34,11)],[(32,9),(35,12)],[(23,0),(26,3)]] [[],[],[],[1,2],[],[],[],[5,6],[4,5,6,7],[4,5,6,7,8],[],[],[10,11],[4,5,6,7,8,9,10,11,12],[0,1,2,3,4,5,6,7,8,9,10,11,12,13]] ?_
     refine Xq Af ?_;refine Xq Af ?_;refine Xq Af ?_;refine Xq CC ?_;refine Xq Af ?_;refine Xq Af ?_;refine Xq Af ?_;refine Xq CC ?_;refine Xq (CN (k:=i+k) (ah rfl) (ah rfl) (Ac rfl) (Ac rfl) (by omega)) ?_;refine Xq (Mx (e:=⟨g,71,flF (BV (EX H c G k i)) n⟩) 0 0 (ah rfl) rfl rfl (Ac rfl) rfl (PartAt.flF (Fy _) (by omega))) ?_;refine Xq At ?_;refine Xq At ?_;refine Xq (Ad (Zh c (G i) S2 S3 hc (hG i) (by omega))) ?_;refine Xq (Ad (Zl (EX H c G k i (i+k)) (c*G i) S1 (S2+S3) hz (hc.mul (hG i)) hS)) ?_;refine Xq (CN (k:=i+k) (ah rfl) (ah rfl) (Ac rfl) (Ac rfl) (by omega)) ?_;refine ⟨_,rfl,?_⟩
     refine VV (e:=⟨g,71,flF (BV (EX H c G k i)) n⟩) 0 0 (ao rfl) (ao rfl) rfl rfl (Ac rfl) rfl hst rfl ?_;refine AWl.nil<|Ag<|Yn<|AWp.region ?_;refine Wq AD ?_;refine Wm<|AWl.nil ?_
     refine ALoop.next (m-(i+1)) (by omega) ⟨i+1,by omega,rfl,rfl⟩ ?_
     exact Ah (by exact Yd<|Yd<|Yp<|Yd<|Yd<|Yd<|FrLe.nil) (by exact HpLe.cons (OwLe.obj rfl)<|HpLe.cons (Bi rfl)<|Yv<|HpLe.nil)
   .obtain rfl:i=m:=by omega
    apply Y1;refine Wq Aj ?_;refine Y0<|Aa<|Cf<|AA<|Aq<|Ar<|ABlock.hit ?_
    refine Hs EL rfl ?_ rfl
    exact ⟨rfl,rfl⟩
theorem A4c{x:Int}(k:Nat)(hk:1<=k)(h:x.natAbs<BB^k):RSz ((x:Int):Rat) k:=by
 refine ⟨Fq h,?_⟩
 show (As 1).length<=k
 exact Nat.le_trans (Fq (k:=1) (by simp only [BB,Nat.pow_one];omega)) hk
theorem MK{x:Int}(h0:-1000000<=x)(h1:x<=1000000):RSz ((x:Int):Rat) 1:=A4c 1 (by omega) (by simp only [BB,Nat.pow_one];omega)
theorem Ly{x:Int}(h0:-9223372036854775808<=x)(h1:x<=9223372036854775807):RSz ((x:Int):Rat) 2:=A4c 2 (by omega) (by simp only [BB,Nat.reducePow];omega)
theorem DT{x:Int}(h0:-1000000<=x)(h1:x<=1000000):(As x.natAbs).length<=1:=Fq (by simp only [BB,Nat.pow_one];omega)
def Dj(F:Nat->Rat):Nat->Nat
 | 0=>0
 | n+1=>if F n=0 then Dj F n else n+1
theorem Ep(F:Nat->Rat):∀n,Dj F n<=n
 | 0=>Nat.le_refl 0
 | n+1=>by
  rw [Dj]
  split
  .exact Nat.le_succ_of_le (Ep F n)
  .exact Nat.le_refl _
abbrev upO(g:Nat)(F:Nat->Rat)(n:Nat):Ow:=.obj (By [⟨g,71,flF (BV F) n⟩])
theorem MW(F:Nat->Rat)(n N g c:Nat)(hn:n<=N)(hc:n<=c)(hN:N<=100000):Con Tryz.prog 115 [.d (sX g n c)] [upO g F N] [] (λr hp'=>r = .d (sX g (Dj F n) c)/\hp'=[upO g F N,.dead]):=by
 refine BK Tryz.func115 rfl (Az Tryz.func115 (by kernel_rfl) (by kernel_rfl)) rfl λs0 pv0=>?_
 rw [Tryz.ntmps115]
 refine Y1<|Wa<|Y0<|Y1<|Wm ?_;refine Wq (Dq (ao rfl) (Ac rfl)) ?_;refine Wa<|Y0<|Aa<|AWp.block ?_
 refine AC (λmz σ=>∃m,m<=n/\Dj F m=Dj F n/\mz=m/\σ=⟨[(0,.d (sX g n c)),(3,.d (ex (.int .i64 (m:Nat))))],[upO g F N,.pin [(pv0,.own 0)]]⟩) ?le ⟨n,Nat.le_refl n,rfl,rfl,rfl⟩ ?round
 case le=>exact Ah (by exact Yd<|Yd<|FrLe.nil) (by exact HpLe.cons (OwLe.obj rfl)<|HpLe.cons (Bi rfl)<|HpLe.nil)
 case round=>
  rintro m _ ⟨_,hm,htr,rfl,rfl⟩
  by_cases h0:m=0
  .subst h0
   have hk0:(0:Nat)<=n:=Nat.zero_le n
   refine Aa<|Y1<|Wm ?_;refine Wq Aj ?_;refine Wm ?_;refine Ws ?_;refine Ws ?_;refine Ws ?_;refine Ws ?_;refine Ws ?_;refine Ws ?_;refine Ws ?_;refine Wq Bc ?_;refine Y0<|Cf<|AA<|Aq<|Ar<|ABlock.hit<|Yn<|Y1<|Wm<|Wm ?_;refine Wq (Mu (k:=0) (ao rfl) (ao rfl) (Ac rfl) (Ac rfl) hk0 hc) ?_;refine Wa<|Y0<|Am ?_
   refine Bv (RetsA.one rfl) rfl ?_ rfl
   exact ⟨by rw [<-htr];rfl,rfl⟩
  .have hm1:m-1<N:=by omega
   have hm2:m-1<n:=by omega
   by_cases hz:F (m-1)=0
   .have hs:(F (m-1)).num.sign=0:=Dy.2 hz
    refine Aa<|Y1<|Wm ?_;refine Wq Ak ?_;refine Wm ?_;refine Wg Af ?_;refine Wg Af ?_;refine Wg CM ?_;refine Wg (CN (k:=m-1) (ao rfl) (ao rfl) (Ac rfl) (Ac rfl) hm2) ?_;refine Wg (Mx (e:=⟨g,71,flF (BV F) N⟩) 0 0 (ao rfl) rfl rfl (Ac rfl) rfl (PartAt.flF (Fy _) hm1)) ?_;refine Wg (Ad (Ev (F (m-1)))) ?_;refine Wg Ak ?_;refine Wq AM ?_;refine Y0<|Ct<|Ys<|AWp.block<|AWp.region<|Wm ?_;refine Wq CM ?_;refine Wa<|AWl.nil<|Ag ?_
    have htr':Dj F (m-1)=Dj F n:=by
     rw [<-htr]
     obtain ⟨q,rfl⟩:∃q,m=q+1:=⟨m-1,by omega⟩
     have hz':F q=0:=hz
     rw [show q+1-1=q from rfl,Dj,if_pos hz']
    refine ALoop.next (m-1) (by omega) ⟨m-1,by omega,htr',rfl,rfl⟩ ?_
    exact Ah (by exact Yd<|Yd<|FrLe.nil) (by exact HpLe.cons (OwLe.obj rfl)<|HpLe.cons (Bi rfl)<|HpLe.nil)
   .have hs:¬(F (m-1)).num.sign=0:=λh=>hz (Dy.1 h)
    refine Aa<|Y1<|Wm ?_;refine Wq Ak ?_;refine Wm ?_;refine Wg Af ?_;refine Wg Af ?_;refine Wg CM ?_;refine Wg (CN (k:=m-1) (ao rfl) (ao rfl) (Ac rfl) (Ac rfl) hm2) ?_;refine Wg (Mx (e:=⟨g,71,flF (BV F) N⟩) 0 0 (ao rfl) rfl rfl (Ac rfl) rfl (PartAt.flF (Fy _) hm1)) ?_;refine Wg (Ad (Ev (F (m-1)))) ?_;refine Wg Aj ?_;refine Wq AM ?_;refine Y0<|Cf<|AA<|Aq<|Ar<|ABlock.hit<|Yn<|Y1<|Wm<|Wm ?_;refine Wq (Mu (k:=m) (ao rfl) (ao rfl) (Ac rfl) (Ac rfl) hm hc) ?_;refine Wa<|Y0<|Am ?_
    have htr':Dj F m=m:=by
     obtain ⟨q,rfl⟩:∃q,m=q+1:=⟨m-1,by omega⟩
     have hz':¬F q=0:=hz
     rw [Dj,if_neg hz']
    refine Bv (RetsA.one rfl) rfl ?_ rfl
    exact ⟨by rw [<-htr,htr'],rfl⟩
def Iq(F G:Nat->Rat)(k:Nat):Nat->Nat->Rat
 | 0=>λ_=>q0
 | i+1=>EX (Iq F G k i) (F i) G i k
theorem VF{H G:Nat->Rat}{c:Rat}{S1 S2 S3 k i:Nat}(hH:∀j,RSz (H j) S1)(hc:RSz c S2)(hG:∀j,RSz (G j) S3)(j:Nat):RSz (EX H c G k i j) (S1+(S2+S3)+1):=by
 unfold EX
 split
 .exact (hH j).add (hc.mul (hG _))
 .exact (hH j).mono (by omega)
theorem OQ{F G:Nat->Rat}{k S2 S3:Nat}(hF:∀j,RSz (F j) S2)(hG:∀j,RSz (G j) S3):∀i j,RSz (Iq F G k i j) (1+i*(S2+S3+1))
 | 0,j=>by
  rw [Nat.zero_mul]
  exact MK (x:=0) (by omega) (by omega)
 | i+1,j=>by
  have:=VF (k:=i) (i:=k) (OQ (k:=k) hF hG i) (hF i) hG j
  refine RSz.mono this ?_
  rw [Nat.succ_mul]
  omega
theorem Yo{s:GS}{g c n N:Nat}{F:Nat->Rat}(h:Hset s ⟨g,71,flF (BV F) N⟩)(hn:n<=N)(hc:n<=c)(hc':c<=9223372036854775807){v:Value}(hv:(sX g n c).rel s v):(BP n F).rel s v:=by
 obtain rfl:v = .slice (some ⟨g,0,none⟩) n c:=hv
 exact A2i h (Fy F) hn hc hc'
theorem Zn(m k:Nat)(F G:Nat->Rat)(h:m=0\/k=0)(hm:m<=1000)(hk:k<=1000):Abs Tryz.prog 63 [BP m F,BP k G] (BP 0 F):=by
 by_cases h0:m=0
 .subst h0
  refine Ab Tryz.func63 λs0=>?_
  rw [Tryz.ntmps63]
  refine Y1<|Wa<|Y0<|Aa<|Y1<|Wm ?_;refine Wq (Cc (F:=BV F) rfl (Ac rfl)) ?_;refine Wq Ak ?_;refine Wm ?_;refine Ws ?_;refine Ws ?_;refine Ws ?_;refine Wq AM ?_;refine Y0<|Ct<|Y1<|Wa<|Y0<|Am<|AP ?_
  exact AN (Rets.of1 (ResV.tmp rfl rfl) (Dw))
 .obtain rfl:k=0:=by omega
  have h1:¬((m:Nat):Int)=0:=by omega
  refine Ab Tryz.func63 λs0=>?_
  rw [Tryz.ntmps63]
  refine Y1<|Wa<|Y0<|Aa<|Y1<|Wm ?_;refine Wq (Cc (F:=BV F) rfl (Ac rfl)) ?_;refine Wq Aj ?_;refine Wm ?_;refine Wg Af ?_;refine Wg (Cc (F:=BV G) rfl (Ac rfl)) ?_;refine Wg Ak ?_;refine Wq Bc ?_;refine Y0<|Ct<|Y1<|Wa<|Y0<|Am<|AP ?_
  exact AN (Rets.of1 (ResV.tmp rfl rfl) (Dw))
theorem Zo(m k S2 S3:Nat)(F G:Nat->Rat)(hm0:0<m)(hk0:0<k)(hm:m<=1000)(hk:k<=1000)(hF:∀j,RSz (F j) S2)(hG:∀j,RSz (G j) S3)(hS:1+m*(S2+S3+1)<=4398046511104):Abs Tryz.prog 63 [BP m F,BP k G] (BP (Dj (Iq F G k m) (m+k-1)) (Iq F G k m)):=by
 have h1:¬((m:Nat):Int)=0:=by omega
 have h2:¬((k:Nat):Int)=0:=by omega
 have hN:m+k-1<=100000:=by omega
 refine Ab Tryz.func63 λs0=>?_
 rw [Tryz.ntmps63]
 refine Y1<|Wa<|Y0<|Aa<|Y1<|Wm ?_;refine Wq (Cc (F:=BV F) rfl (Ac rfl)) ?_;refine Wq Aj ?_;refine Wm ?_;refine Wg Af ?_;refine Wg (Cc (F:=BV G) rfl (Ac rfl)) ?_;refine Wg Aj ?_;refine Wq Bc ?_;refine Y0<|Cf<|Ys<|Y1<|Wm ?_;refine Wq (Cc (F:=BV F) rfl (Ac rfl)) ?_;refine Wm ?_;refine Wq (Cc (F:=BV G) rfl (Ac rfl)) ?_;refine Wq CC ?_;refine Wq CM ?_
 refine Kk [] [] (Lg (m+k-1) hN) ?_
 rintro _ _ ⟨g,rfl,rfl⟩
 refine Kr ?_
 try simp only [Bd,Bt]
 refine Wa<|Y0<|Aa<|Y1<|Wm ?_;refine Wq (Cc (F:=BV F) rfl (Ac rfl)) ?_;refine Wm<|Y0<|AWp.block ?_
 refine AC (λmz σ=>∃i,i<=m/\mz=m-i/\σ=⟨[(1,.d (BP k G)),(5,.d (sX g (m+k-1) (m+k-1))),(23,.d (BP m F)),(24,.d (ex (.int .i64 (m:Nat)))),(25,.d (ex (.int .i64 (i:Nat))))],[.dead,upO g (Iq F G k i) (m+k-1)]⟩) ?lei ⟨0,by omega,rfl,rfl⟩ ?roundi
 case lei=>exact Ah (by exact Yd<|Yd<|Yd<|Yd<|Yd<|FrLe.nil) (by exact HpLe.cons (OwLe.dead)<|HpLe.cons (OwLe.obj rfl)<|HpLe.nil)
 case roundi=>
  rintro mz _ ⟨i,hi,rfl,rfl⟩
  by_cases hlti:i<m
  .have hi:(i+1)*(S2+S3+1)<=m*(S2+S3+1):=Nat.mul_le_mul_right _ hlti
   rw [Nat.succ_mul] at hi
   apply Y1;refine Wq Ak ?_;refine Y0<|Aa<|Ct<|Ys<|Aa<|AWp.block<|Y1<|Wm ?_;refine Wq (FH (F:=BV F) (k:=i) rfl (ao rfl) (Ac rfl) (Ac rfl) rfl hlti) ?_;refine Wq AB ?_;refine Al ?_;refine Wa ?_;refine Sf ?_;refine Y0<|AWp.region<|Wm ?_;refine Wq At ?_;refine Wm<|Wm ?_
   refine Kk [1] [] (Rq g (m+k-1) (m+k-1) k i (1+i*(S2+S3+1)) S2 S3 (Iq F G k i) G (F i) (OQ hF hG i) (hF i) hG (by omega) (by omega) hN) ?_
   rintro _ _ ⟨rfl,rfl⟩
   refine Kr ?_
   try simp only [Bd,Bt]
   refine AWl.nil<|Ag<|Yn<|AWp.region ?_;refine Wq AD ?_;refine Wm<|AWl.nil ?_
   refine ALoop.next (m-(i+1)) (by omega) ⟨i+1,by omega,rfl,rfl⟩ ?_
   exact Ah (by exact Yd<|Yd<|Yd<|Yd<|Yd<|FrLe.nil) (by exact HpLe.cons (OwLe.dead)<|HpLe.cons (OwLe.obj rfl)<|HpLe.nil)
  .obtain rfl:i=m:=by omega
   apply Y1;refine Wq Aj ?_;refine Y0<|Aa<|Cf<|AA<|Aq<|Ar<|ABlock.hit<|Yn<|Y1<|Wm ?_
   refine Kk [1] [] (MW (Iq F G k i) (i+k-1) (i+k-1) g (i+k-1) (Nat.le_refl _) (Nat.le_refl _) hN) ?_
   rintro _ _ ⟨rfl,rfl⟩
   refine Kr ?_
   try simp only [Bd,Bt]
   have hle:=Ep (Iq F G k i) (i+k-1)
   refine Dc (EM (R:=BP (Dj (Iq F G k i) (i+k-1)) (Iq F G k i)) 1 37 rfl rfl rfl rfl λs' hs v hv=>?_) ?_
   .exact Yo (hs _ List.mem_cons_self) hle (by omega) (by omega) hv
   refine Wa<|Y0<|Am ?_
   exact Yf
def Du(F:Nat->Rat)(n j:Nat):Rat:=if j<n then F j else q0
theorem Pc{F:Nat->Rat}{n S:Nat}(h:∀j,RSz (F j) S)(hS:1<=S)(j:Nat):RSz (Du F n j) S:=by
 unfold Du
 split
 .exact h j
 .exact RSz.mono (MK (x:=0) (by omega) (by omega)) hS
theorem A3m(F:Nat->Rat)(n N:Nat):VB n (BV F) (BV λ_=>q0)=BV (Du F n):=by
 funext j
 unfold VB BV Du
 split<;>rfl
abbrev q1:Rat:=((1:Int):Rat)
def JZ(F G:Nat->Rat)(m k:Nat):Nat->Rat:=EX (Du F m) q1 G 0 k
theorem A0e(m k S1 S3:Nat)(F G:Nat->Rat)(hm:m<=1000)(hk:k<=1000)(hF:∀j,RSz (F j) S1)(hG:∀j,RSz (G j) S3)(hS1:1<=S1)(hS:S1+(1+S3)+1<=4398046511104):Abs Tryz.prog 64 [BP m F,BP k G] (BP (Dj (JZ F G m k) (max m k)) (JZ F G m k)):=by
 have hN:max m k<=100000:=by omega
 have hmx:((max m k:Nat):Int)=max ((m:Nat):Int) (((k:Nat):Int)+0):=by omega
 have cz:=Lg (max m k) hN
 rw [hmx] at cz
 have csh:Abs Tryz.prog 116 [BP m F,Bb (BT q1),BP k G,ex (.int .i64 0)] (BP (Dj (JZ F G m k) (max m k)) (JZ F G m k)):=by
  refine Ab Tryz.func116 λs0=>?_
  rw [Tryz.ntmps116]
  apply Y1;refine Bx ?_;refine Wa<|Y0<|Y1<|Wm ?_;refine Wq (Cc (F:=BV F) rfl (Ac rfl)) ?_;refine Wm ?_;refine Wq (Cc (F:=BV G) rfl (Ac rfl)) ?_;refine Wm ?_;refine Wq CC ?_;refine Wq IA ?_
  refine Kk [] [] (cz) ?_
  rintro _ _ ⟨g,rfl,rfl⟩
  refine Kr ?_
  try simp only [Bd,Bt]
  refine Wa<|Y0<|Y1<|Wm<|Wm ?_;refine A2o (F:=BV F) (N:=m) (len:=max m k) (G:=BV λ_=>q0) 2 0 (ao rfl) rfl rfl rfl (Fy _) (Fy _) (by decide) (Ac rfl) (Ac rfl) rfl rfl ?_;refine Y0<|Y1<|Wm ?_;refine Wq At ?_;refine Wm<|Wm ?_
  rw [A3m F m (max m k)]
  skip
  refine Kk [2] [] (Rq g (max m k) (max m k) k 0 S1 1 S3 (Du F m) G q1 (Pc hF hS1) (MK (x:=1) (by omega) (by omega)) hG hS (by omega) hN) ?_
  rintro _ _ ⟨rfl,rfl⟩
  refine Kr ?_
  try simp only [Bd,Bt]
  refine Y0<|Y1<|Wm ?_
  refine Kk [2] [] (MW (JZ F G m k) (max m k) (max m k) g (max m k) (Nat.le_refl _) (Nat.le_refl _) hN) ?_
  rintro _ _ ⟨rfl,rfl⟩
  refine Kr ?_
  try simp only [Bd,Bt]
  have hle:=Ep (JZ F G m k) (max m k)
  refine Dc (EM (R:=BP (Dj (JZ F G m k) (max m k)) (JZ F G m k)) 2 27 rfl rfl rfl rfl λs' hs v hv=>?_) ?_
  .exact Yo (hs _ List.mem_cons_self) hle (by omega) (by omega) hv
  refine Wa<|Y0<|Am ?_
  exact Yf
 refine Ab Tryz.func64 λs0=>?_
 rw [Tryz.ntmps64]
 refine Y1<|Wa<|Y0<|Y1<|Wm ?_;refine Wq (Ad (Ip 1 (by omega) (by omega))) ?_;refine Wm ?_;refine Wq (Ad (csh)) ?_;refine Wa<|Y0<|Am ?_
 exact Yf
theorem A1B(x y:Int)(hn:(As x.natAbs).length<=4398046511104)(hn':(As y.natAbs).length<=4398046511104)(hy:0<y):Abs Tryz.prog 109 [Bb (BL x),Bb (BL y)] (Bb (BT (Rat.divInt x y))):=Je x y hn hn' hy
theorem VP(x y:Int)(hn:(As x.natAbs).length<=4398046511104)(hn':(As y.natAbs).length<=4398046511104)(hy:0<y):Abs Tryz.prog 61 [Bb (BL x),Bb (BL y)] (BC [Bb (BT (Rat.divInt x y)),ex (.int .i64 0)]):=by
 have hs:y.sign=1:=Int.sign_eq_one_of_pos hy
 have cs:=UD y
 rw [hs] at cs
 refine Ab Tryz.func61 λs0=>?_
 rw [Tryz.ntmps61]
 apply Y1;refine Bx ?_;refine Bx ?_;refine Al ?_;refine Wa<|Y0<|Aa<|Y1 ?_;refine Wq At ?_;refine Wq (Ad (cs)) ?_;refine Wq Aj ?_;refine Y0<|Cf<|Ys<|Aa<|Y1 ?_;refine Wq At ?_;refine Wq (Ad (cs)) ?_;refine Wq Aj ?_;refine Y0<|Cf<|Ys<|Y1 ?_;refine Wq At ?_;refine Wq At ?_;refine Wq (Ad (A1B x y hn hn' hy)) ?_;refine Sf ?_;refine Wa<|Y0<|Am ?_
 exact AN (BA (ResV.cell rfl rfl (Ac rfl) rfl rfl rfl) (ResV.tmp rfl rfl) (Be (D.le.refl _) (D.le.refl _)))
theorem XT(c:Rat):Abs Tryz.prog 59 [Bb (BT c)] (BP (if c=0 then 0 else 1) λ_=>c):=by
 by_cases h0:c=0
 .have hs:c.num.sign=0:=Dy.2 h0
  rw [if_pos h0]
  refine Ab Tryz.func59 λs0=>?_
  rw [Tryz.ntmps59]
  apply Y1;refine Bx ?_;refine Wa<|Y0<|Aa<|Y1 ?_;refine Wq At ?_;refine Wq (Ad (Ev c)) ?_;refine Wq Ak ?_;refine Y0<|Ct<|Y1<|Wa<|Y0<|Am<|AP ?_
  exact AN (Rets.of1 (ResV.tmp rfl rfl) (Dw))
 .have hs:¬c.num.sign=0:=λh=>h0 (Dy.1 h)
  rw [if_neg h0]
  refine Ab Tryz.func59 λs0=>?_
  rw [Tryz.ntmps59]
  apply Y1;refine Bx ?_;refine Wa<|Y0<|Aa<|Y1 ?_;refine Wq At ?_;refine Wq (Ad (Ev c)) ?_;refine Wq Aj ?_;refine Y0<|Cf<|Ys<|Y1 ?_;refine Wq At ?_;refine Wq (BF (ao rfl) (Ac rfl) (Ac rfl) rfl rfl rfl rfl rfl) ?_;refine Wa<|Y0<|Am ?_
  exact Yf
def pG(t j:Nat)(k:Nat):Rat:=if k=0 then Rat.divInt ((t:Int)-(j:Int)) (t:Int) else Rat.divInt 1 (t:Int)
def pT(c:Rat)(j:Nat):Nat->Nat×(Nat->Rat)
 | 0=>(if c=0 then 0 else 1,λ_=>c)
 | i+1=>if (pT c j i).1=0 then (0,(pT c j i).2) else (Dj (Iq (pT c j i).2 (pG (i+1) j) 2 (pT c j i).1) ((pT c j i).1+1),Iq (pT c j i).2 (pG (i+1) j) 2 (pT c j i).1)
theorem Ql(c:Rat)(j:Nat):∀i,(pT c j i).1<=i+1
 | 0=>by
  show (if c=0 then 0 else 1)<=1
  split<;>omega
 | i+1=>by
  rw [pT]
  have:=Ql c j i
  split
  .exact Nat.zero_le _
  .exact Nat.le_trans (Ep _ _) (by omega)
def Sl:Nat->Nat
 | 0=>2
 | i+1=>1+(i+1)*(Sl i+2)
theorem Yw{i:Nat}(h:i<=7):Sl i<=100000:=by
 have:i=0\/i=1\/i=2\/i=3\/i=4\/i=5\/i=6\/i=7:=by omega
 rcases this with rfl | rfl | rfl | rfl | rfl | rfl | rfl | rfl<;>decide
theorem YY(t j k:Nat)(ht:0<t)(ht2:t<=1000)(hj:j<=10000):RSz (pG t j k) 1:=by
 unfold pG
 split
 .exact RSz.divInt (by omega) (DT (by omega) (by omega)) (DT (by omega) (by omega))
 .exact RSz.divInt (by omega) (DT (by omega) (by omega)) (DT (by omega) (by omega))
theorem UR{c:Rat}{j:Nat}(hc:RSz c 2)(hj:j<=10000):∀i,i<=900->∀k,RSz ((pT c j i).2 k) (Sl i)
 | 0,_,k=>hc
 | i+1,hi,k=>by
  have ih:=UR hc hj i (by omega)
  have hle:=Ql c j i
  rw [pT]
  split
  .refine (ih k).mono ?_
   show Sl i<=1+(i+1)*(Sl i+2)
   have:1*(Sl i+2)<=(i+1)*(Sl i+2):=Nat.mul_le_mul_right _ (by omega)
   omega
  .refine (OQ ih (λk=>YY (i+1) j k (by omega) (by omega) hj) _ k).mono ?_
   exact Nat.add_le_add_left (Nat.mul_le_mul_right (Sl i+2) hle) 1
def pH(q:Nat->Int)(Dg:Nat):Nat->Nat×(Nat->Rat)
 | 0=>(0,λ_=>q0)
 | j+1=>(Dj (JZ (pH q Dg j).2 (pT ((q j:Int):Rat) j (Dg-1)).2 (pH q Dg j).1 (pT ((q j:Int):Rat) j (Dg-1)).1) (max (pH q Dg j).1 (pT ((q j:Int):Rat) j (Dg-1)).1),JZ (pH q Dg j).2 (pT ((q j:Int):Rat) j (Dg-1)).2 (pH q Dg j).1 (pT ((q j:Int):Rat) j (Dg-1)).1)
theorem YX(q:Nat->Int){Dg:Nat}(hD:0<Dg):∀j,(pH q Dg j).1<=Dg
 | 0=>Nat.zero_le Dg
 | j+1=>by
  have h1:=YX q hD j
  have h2:=Ql ((q j:Int):Rat) j (Dg-1)
  rw [pH]
  exact Nat.le_trans (Ep _ _) (by omega)
theorem A2C{q:Nat->Int}{Dg:Nat}(hD:Dg<=900)(hq:∀j,RSz ((q j:Int):Rat) 2):∀j,j<=10000->∀k,RSz ((pH q Dg j).2 k) (1+j*(Sl (Dg-1)+2))
 | 0,_,k=>by
  rw [Nat.zero_mul]
  exact MK (x:=0) (by omega) (by omega)
 | j+1,hj,k=>by
  have h1:=A2C hD hq j (by omega)
  have h2:=UR (hq j) (show j<=10000 by omega) (Dg-1) (by omega)
  rw [pH]
  refine (VF (λt=>Pc h1 (by omega) t) (MK (x:=1) (by omega) (by omega)) h2 k).mono ?_
  rw [Nat.succ_mul]
  omega
theorem NZ(l:Ai)(n:Int)(Dg M:Nat)(q:Nat->Int)(hD:0<Dg)(hD2:Dg<=8)(hM:M<=9000)(hq:∀j,-9223372036854775808<=q j/\q j<=9223372036854775807)(ck:Abs Tryz.prog 46 [AZ l,ex (.int .i64 n)] (ex (.int .i64 0)))(cd:Abs Tryz.prog 55 [AZ l,ex (.int .i64 n)] (ex (.int .i64 (Dg:Nat))))(cc:Abs Tryz.prog 58 [AZ l,ex (.int .i64 n),ex (.int .i64 (Dg:Nat))] (nD M q)):Abs Tryz.prog 26 [AZ l,ex (.int .i64 n)] (BC [BP (pH q Dg M).1 (pH q Dg M).2,ex (.int .i64 0)]):=by
 have hDp:¬((Dg:Nat):Int)<=0:=by omega
 have hqs:∀j,RSz ((q j:Int):Rat) 2:=λj=>Ly (hq j).1 (hq j).2
 have hsz:Sl (Dg-1)<=100000:=Yw (by omega)
 refine Ab Tryz.func26 λs0=>?_
 rw [Tryz.ntmps26]
 refine Y1<|Wa<|Wa<|Y0<|Aa<|Y1<|Wm<|Wm ?_;refine Wq (Ad (ck)) ?_;refine Wa<|Y0<|Y1<|Wm ?_;refine Wq Aj ?_;refine Y0<|Cf<|Ys<|Y1<|Wm<|Wm ?_;refine Wq (Ad (cd)) ?_;refine Wa<|Y0<|Aa<|Y1<|Wm ?_;refine Wq Aj ?_;refine Y0<|Cf<|Ys<|Y1<|Wa<|Y0<|Aa<|Y1<|Wm<|Wm<|Wm ?_;refine Wq (Ad (cc)) ?_;refine Wq (BX rfl (Ac rfl)) ?_;refine Wm<|Y0<|AWp.block ?_
 refine AC (λmz σ=>∃j,j<=M/\mz=M-j/\σ=⟨[(7,.d (ex (.int .i64 (Dg:Nat)))),(8,.d (BP (pH q Dg j).1 (pH q Dg j).2)),(31,.d (nD M q)),(32,.d (ex (.int .i64 (M:Nat)))),(33,.d (ex (.int .i64 (j:Nat))))],[]⟩) ?lej ⟨0,by omega,rfl,rfl⟩ ?roundj
 case lej=>exact Ah (by exact Yd<|FrLe.cons rfl (AVle.le Dw)<|Yd<|Yd<|Yd<|FrLe.nil) (by exact HpLe.nil)
 case roundj=>
  rintro mz _ ⟨j,hj,rfl,rfl⟩
  by_cases hltj:j<M
  .have hj:=hq j
   apply Y1;refine Wq Ak ?_;refine Y0<|Aa<|Ct<|Ys<|Aa<|AWp.block<|Y1<|Wm ?_;refine Wq (FI (k:=j) rfl (ao rfl) (Ac rfl) (Ac rfl) rfl hltj) ?_;refine Wq CA ?_;refine Wa<|Wa<|Y0<|Y1<|Wm ?_;refine Wq (Ad (Ip (q j) hj.1 hj.2)) ?_;refine Wq (Ad (XT ((q j:Int):Rat))) ?_;refine Wa<|Y0<|Aa<|Y1<|Wa<|Y0<|AWp.block ?_
   refine AC (λmz σ=>∃i,i<=Dg-1/\mz=Dg-1-i/\σ=⟨[(7,.d (ex (.int .i64 (Dg:Nat)))),(8,.d (BP (pH q Dg j).1 (pH q Dg j).2)),(9,.d (ex (.int .i64 (j:Nat)))),(11,.d (BP (pT ((q j:Int):Rat) j i).1 (pT ((q j:Int):Rat) j i).2)),(12,.d (ex (.int .i64 ((i+1:Nat):Int)))),(31,.d (nD M q)),(32,.d (ex (.int .i64 (M:Nat)))),(33,.d (ex (.int .i64 (j:Nat))))],[]⟩) ?lei ⟨0,by omega,rfl,rfl⟩ ?roundi
   case lei=>exact Ah (by exact Yd<|Yd<|Yd<|Yd<|Yd<|Yd<|Yd<|Yd<|FrLe.nil) (by exact HpLe.nil)
   case roundi=>
    rintro mz _ ⟨i,hi,rfl,rfl⟩
    by_cases hlti:i<Dg-1
    .have c1:Abs Tryz.prog 61 [Bb (BL (((i+1:Nat):Int)-(j:Int))), Bb (BL ((i+1:Nat):Int))] (BC [Bb (BT (pG (i+1) j 0)), ex (.int .i64 0)]):=VP _ _ (Nat.le_trans (DT (by omega) (by omega)) (by decide)) (Nat.le_trans (DT (by omega) (by omega)) (by decide)) (by omega)
     have c2:Abs Tryz.prog 61 [Bb (BL 1),Bb (BL ((i+1:Nat):Int))] (BC [Bb (BT (pG (i+1) j 1)),ex (.int .i64 0)]):=VP _ _ (Nat.le_trans (DT (by omega) (by omega)) (by decide)) (Nat.le_trans (DT (by omega) (by omega)) (by decide)) (by omega)
     have c3:Abs Tryz.prog 63 [BP (pT ((q j:Int):Rat) j i).1 (pT ((q j:Int):Rat) j i).2,slD 71 4 [BT (pG (i+1) j 0),BT (pG (i+1) j 1)]] (BP (pT ((q j:Int):Rat) j (i+1)).1 (pT ((q j:Int):Rat) j (i+1)).2):=by
      have hle:=Ql ((q j:Int):Rat) j i
      by_cases hz:(pT ((q j:Int):Rat) j i).1=0
      .rw [pT,if_pos hz]
       exact Zn _ 2 _ (pG (i+1) j) (.inl hz) (by omega) (by omega)
      .rw [pT,if_neg hz]
       refine Zo _ 2 (Sl i) 1 _ (pG (i+1) j) (by omega) (by omega) (by omega) (by omega) (UR (hqs j) (by omega) i (by omega)) (λk=>YY (i+1) j k (by omega) (by omega) (by omega)) ?_
       have h1:Sl i<=100000:=Yw (by omega)
       have h2:(pT ((q j:Int):Rat) j i).1*(Sl i+1+1)<=8*100002:=Nat.mul_le_mul (by omega) (by omega)
       omega
     refine Aa<|Y1<|Wm<|Wm ?_;refine Wq Ak ?_;refine Y0<|Ct<|Ys<|Aa<|AWp.block<|Y1<|Wm<|Wm ?_;refine Wq DV ?_;refine Wq (Ad (In (((i+1:Nat):Int)-(j:Int)) (by omega) (by omega))) ?_;refine Wm ?_;refine Wq (Ad (In ((i+1:Nat):Int) (by omega) (by omega))) ?_;refine Wq (Ad (c1)) ?_;refine Wm ?_;refine Wq AI ?_;refine Wq AI ?_;refine Al ?_;refine Sf ?_;refine Wa<|Y0<|Y1 ?_;refine Wq (Ad (In 1 (by omega) (by omega))) ?_;refine Wm ?_;refine Wq (Ad (In ((i+1:Nat):Int) (by omega) (by omega))) ?_;refine Wq (Ad (c2)) ?_;refine Wm ?_;refine Wq AI ?_;refine Wq AI ?_;refine Al ?_;refine Sf ?_;refine Wa<|Y0<|AWp.region<|Wm ?_;refine Wq At ?_;refine Wq At ?_;(refine CD rfl rfl ?_;(refine Cl (Ac rfl) (Ac rfl) rfl rfl rfl rfl rfl ?_;(repeat ((first | refine ⟨_,AW (ao rfl),?_⟩ | refine ⟨_,Po rfl,?_⟩);refine ⟨_,rfl,?_⟩));refine ⟨_,rfl,?_⟩));refine Wq (Ad (c3)) ?_;refine Wa<|AWl.nil<|Ag<|Yn<|AWp.region<|Wm ?_;refine Wq AD ?_;refine Wa<|AWl.nil ?_
     refine ALoop.next (Dg-1-(i+1)) (by omega) ⟨i+1,by omega,rfl,rfl⟩ ?_
     exact Ah (by exact Yd<|Yd<|Yd<|Yd<|Yd<|Yd<|Yd<|Yd<|FrLe.nil) (by exact HpLe.nil)
    .obtain rfl:i=Dg-1:=by omega
     have c4:Abs Tryz.prog 64 [BP (pH q Dg j).1 (pH q Dg j).2,BP (pT ((q j:Int):Rat) j (Dg-1)).1 (pT ((q j:Int):Rat) j (Dg-1)).2] (BP (pH q Dg (j+1)).1 (pH q Dg (j+1)).2):=by
      have h1:=YX q hD j
      have h2:=Ql ((q j:Int):Rat) j (Dg-1)
      have h3:j*(Sl (Dg-1)+2)<=9000*100002:=Nat.mul_le_mul (by omega) (by omega)
      exact A0e _ _ (1+j*(Sl (Dg-1)+2)) (Sl (Dg-1)) _ _ (by omega) (by omega) (A2C (by omega) hqs j (by omega)) (UR (hqs j) (by omega) _ (by omega)) (by omega) (by omega)
     refine Aa<|Y1<|Wm<|Wm ?_;refine Wq Aj ?_;refine Y0<|Cf<|AA<|Aq<|Ar<|ABlock.hit<|Yn<|AWp.region<|Wm<|Wm ?_;refine Wq (Ad (c4)) ?_;refine Wa<|AWl.nil<|Ag<|Yn<|AWp.region ?_;refine Wq AD ?_;refine Wm<|AWl.nil ?_
     refine ALoop.next (M-(j+1)) (by omega) ⟨j+1,by omega,rfl,rfl⟩ ?_
     exact Ah (by exact Yd<|Yd<|Yd<|Yd<|Yd<|FrLe.nil) (by exact HpLe.nil)
  .obtain rfl:j=M:=by omega
   apply Y1;refine Wq Aj ?_;refine Y0<|Aa<|Cf<|AA<|Aq<|Ar<|ABlock.hit<|Yn<|Y1<|Wm<|Wa<|Wa<|Y0<|Am ?_
   exact AN (BA (ResV.tmp rfl rfl) (ResV.tmp rfl rfl) (Be (D.le.refl _) (D.le.refl _)))
end Go.Proofs.YtialdhnijjnpaaaGreat
