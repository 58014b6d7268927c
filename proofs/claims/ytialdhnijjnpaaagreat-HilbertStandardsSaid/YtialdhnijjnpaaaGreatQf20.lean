/- Part 20 of the proof of hilbertStandards_holds. No condition. -/
import Derived.Shelf.SlSortCmp.NoneTotal
import Derived.Test.YtialdhnijjnpaaaGreatQf2
import Derived.Test.YtialdhnijjnpaaaGreatQf18
import Derived.Test.YtialdhnijjnpaaaGreatQf19
set_option linter.unusedSimpArgs false
set_option linter.unusedVariables false
set_option maxRecDepth 100000
set_option maxHeartbeats 8000000
namespace Go.Proofs.YtialdhnijjnpaaaGreat
open Go.RowKit
theorem CW {P : Program} {hp:List Ow} {arg:Operand→AV} {dd:Option Tmp} {ty:TypeId} {ps:String} {af:Array Edge} {gd:Option (Nat × Bool)} {x:Operand} {t:TypeId} {e n b k:Nat} {z:Value} {ms:Af} (hx:Eb hp (arg x) = some (BF ms)) (hl:ms.length = k) (ht:Tab P t (.slice e) n b z):Quiet P hp ⟨dd,.call { callee:=.builtin .len,args:=#[x],argTypes:=#[t] },ty,ps,af,gd⟩ arg (.d (ex (.int .i64 (k:Nat)))):=by
 subst hl
 have:=Is (dd:=dd) (ty:=ty) (ps:=ps) (af:=af) (gd:=gd) hx ht
 simpa using this
theorem Lz : Abs Tryz.prog 124 [BF [],ex (.func (.func 74) #[] #[])] Ch:=by
 refine ⟨As Tryz.func124 (by kernel_rfl) (by kernel_rfl),fun s vs hok hl hv=>?_⟩
 match vs,hl with
 | [a,b],_ =>
  obtain ⟨A,c,e1,_⟩:=hv 0 (by decide)
  have e1:a = .slice A 0 c:=e1
  subst e1
  exact (AnyF.slices_SortFunc_none Tryz.sortMono A c b s.w).mono fun e w' ⟨he,hw⟩=>⟨_,he,s,hw.symm,GS.Le.refl s,trivial⟩
theorem ON : Abs Tryz.prog 135 [BF []] (BF []):=by
 refine Ab Tryz.func135 fun s0=>?_
 rw [Tryz.ntmps135]
 refine Y1<|Wa<|Y0<|Aa<|Y1<|Wm ?_
 refine Di rfl rfl ?_
 refine ⟨_,Tk rfl (ao rfl) (Ac rfl),?_⟩
 apply AWl.nil
 apply Yn
 refine Pk (ao rfl) ?_ ?_
 ·refine Y1<|Wa<|Y0 ?_;apply Aw;apply Bc
  exact Cq (Rets.of1 (ResV.tmp rfl rfl) (EI))
 ·refine Ys<|Y1 ?_;refine Nn (Ac rfl) (Ac rfl) rfl rfl rfl rfl rfl ?_;refine Wm ?_;refine Wq (XD (ao rfl) rfl rfl (Ac rfl) (Ac rfl)) ?_;refine Wa<|Y0 ?_;apply Aw
  exact Cq (Rets.of1 (ResV.tmp rfl rfl) (KT rfl))
theorem Mx : Abs Tryz.prog 137 [BF []] Ch:=by
 refine Ab Tryz.func137 fun s0=>?_
 rw [Tryz.ntmps137]
 refine Y1<|Wm ?_;refine Wq (CW (ms:=[]) (k:=0) rfl rfl (Ac rfl)) ?_;refine Wq DS ?_;refine Wa<|Wa<|Y0<|AWp.block ?_
 refine AK (fun mz σ=>∃ k,k≤0∧mz = 0 - k∧σ = ⟨[(0,.d (BF [])),(2,.d (ex (.int .i64 0))),(3,.d (ex (.int .i64 (-1))))],[]⟩) ?le ⟨0,by omega,rfl,rfl⟩ ?round
 case le=>exact Ag (by exact Yd<|Yd<|Yd<|FrLe.nil) (by exact HpLe.nil)
 case round =>
  rintro mz _ ⟨k,hk,rfl,rfl⟩
  by_cases hlt:k<0
  ·omega
  ·refine Aa<|Y1<|Wm<|Wm ?_;refine Wq Aq ?_;apply Y0;refine Cf ?_;apply AF;apply Az;apply AA;apply AB
   exact Qu ⟨fun _ _ s tmps fn hf _ _=>⟨.tuple #[],by unfold results;rw [hf];simp,trivial⟩⟩
theorem Nj : Abs Tryz.prog 95 [BF []] (BF []):=by
 refine Ab Tryz.func95 fun s0=>?_
 rw [Tryz.ntmps95]
 refine Y1<|Wa<|Y0<|Y1<|Wm ?_;refine Wq (Am (ON)) ?_;refine Wa<|Y0<|Y1<|Wm ?_;refine Wq (Am (Lz)) ?_;refine Y0<|Y1 ?_;refine Al ?_;refine Y0<|Y1 ?_;refine Wq (Ft [0] rfl) ?_;refine Wa<|Y0<|Aa<|Y1<|Wm ?_;refine Wq (CW (ms:=[]) (k:=0) rfl rfl (Ac rfl)) ?_;refine Wm<|Y0<|AWp.block ?_
 refine AK (fun mz σ=>∃ k,k≤0∧mz = 0 - k∧σ = ⟨[(4,.ptr 0 0),(5,.fn 136 [0]),(13,.d (BF [])),(14,.d (ex (.int .i64 0))),(15,.d (ex (.int .i64 0)))],[.var 28 ([ex (.slice none 0 0)].map .d)]⟩) ?le ⟨0,by omega,rfl,rfl⟩ ?round
 case le=>exact Ag (by exact Yp<|FrLe.cons rfl (AVle.fn rfl)<|Yd<|Yd<|Yd<|FrLe.nil) (by exact Yv<|HpLe.nil)
 case round =>
  rintro mz _ ⟨k,hk,rfl,rfl⟩
  by_cases hlt:k<0
  ·omega
  ·apply Y1;refine Wq Aq ?_;refine Y0<|Aa ?_;refine Cf ?_;apply AF;apply Az;apply AA;apply AB;refine Yn<|Y1 ?_;refine Wq Cb ?_;refine Wq (Am (Mx)) ?_;refine Y0<|Y1 ?_;refine Wq Cb ?_;refine Wa<|Y0 ?_;apply Aw
   exact Cq (Rets.of1 (ResV.tmp rfl rfl) (EI))
theorem UB : He [] = []:=by
 have h:IsMin [] []:=⟨List.Pairwise.nil,fun x=>⟨fun ⟨a,ha,_⟩=>(by cases ha),fun ⟨⟨a,ha,_⟩,_⟩=>(by cases ha)⟩⟩
 have:=(Ju h).same h
 cases hm:He [] with
 | nil=>rfl
 | cons a l=>rw [hm] at this;exact this.elim
theorem Nk (l : Af) (hn:l.length≤1000) (hnn:∀ a∈l,∀ j,j<8→0≤a j):Abs Tryz.prog 95 [BF l] (BF (He l)):=by
 by_cases h0:0<l.length
 ·exact Pe l h0 hn hnn
 ·obtain rfl : l = [] := List.eq_nil_of_length_eq_zero (by omega)
  rw [UB]
  exact Nj
def nC (f : Nat→Int) (n:Nat):List D:=(List.range n).map fun i=>ex (.int .i64 (f i))
def nD (n : Nat) (f:Nat→Int):D:=slD 3 1 ((List.range n).map fun i=>[ex (.int .i64 (f i))])
theorem Hu (f : Nat→Int) (n:Nat):(nC f n).length = n:=by simp [nC]
theorem Rl {f : Nat→Int} {n i:Nat} (h:i<n):By (nC f n) i = ex (.int .i64 (f i)):=by simp [nC,By,h]
theorem Ej {f : Nat→Int} {n i:Nat} (h:i<n):CellAt (nC f n) (i*1) (ex (.int .i64 (f i))):=by
 rw [Nat.mul_one]
 exact ⟨by rw [Hu];exact h,Rl h⟩
theorem MF {f : Nat→Int} {n i:Nat} {z:Int} (h:i<n):SetAt (nC f n) (i*1) [ex (.int .i64 z)] (nC (fun j=>if j = i then z else f j) n):=by
 rw [Nat.mul_one]
 refine ⟨by rw [Hu];exact h,?_⟩
 apply List.ext_getElem?
 intro k
 unfold Lx
 simp only [nC]
 rw [List.getElem?_append,List.length_take,List.length_map,List.length_range,Nat.min_eq_left (by omega)]
 by_cases h1:k<i
 ·rw [if_pos h1,List.getElem?_take,if_pos h1]
  have:¬ k = i:=by omega
  simp [show k<n by omega,this]
 ·rw [if_neg h1]
  by_cases h2:k = i
  ·subst h2
   simp [h]
  ·rw [List.getElem?_append_right (by simp; omega), List.getElem?_drop]
   have e:i+[ex (.int .i64 z)].length+(k - i - [ex (.int .i64 z)].length) = k:=by simp;omega
   rw [e]
   by_cases h3:k<n
   ·simp [h3,h2]
   ·simp [h3]
theorem WG {f : Nat→Int} {n:Nat} (h:f n = 0):nC f n ++ [ex (.int .i64 0)] = nC f (n+1):=by
 simp [nC,List.range_succ,h]
theorem Uu {f f':Nat→Int} {n:Nat} (h:∀ i,i<n→f i = f' i):nC f n = nC f' n:=List.map_congr_left fun i hi=>by rw [h i (List.mem_range.1 hi)]
abbrev nX : List TypeId:=[3]
theorem Yg {s : GS} {g c n N:Nat} {f:Nat→Int} (h:Hset s ⟨g,3,nC f N⟩) (hn:n≤N) (hc:n≤c) (hc':c≤9223372036854775807) {v:Value} (hv:(sX g n c).rel s v):(nD n f).rel s v:=by
 obtain rfl:v = .slice (some ⟨g,0,none⟩) n c:=hv
 have hr:∀ k,k<n→((List.range n).map fun i=>[ex (.int .i64 (f i))]).getD k [] = [ex (.int .i64 (f k))]:=fun k hk=>by simp [hk]
 refine h.sl rfl (by simp) hc hc' (fun k hk=>?_) fun k j hk hj=>?_
 ·rw [hr k (by simpa using hk)]
  rfl
 ·have hk : k < n := by simpa using hk
  obtain rfl:j = 0:=by omega
  rw [hr k hk,Nat.mul_one,Nat.add_zero]
  exact ⟨by show k<(nC f N).length;rw [Hu];omega,Rl (by omega)⟩
section
variable {P : Program} {hp:List Ow} {arg:Operand→AV} {dd:Option Tmp} {ty:TypeId} {ps:String} {af:Array Edge} {gd:Option (Nat × Bool)}
theorem KP {x y:Operand} {t:TypeId} {e n b n' b' g len cap k:Nat} {d:TypeDesc} {z z':Value} (hx:arg x = .d (sX g len cap)) (hy:arg y = .d (ex (.int .i64 (k:Nat)))) (ht:Tab P t (.slice e) n b z) (he:Tab P e d n' b' z') (hk:k≤len) (hc:len≤cap):Quiet P hp ⟨dd,.slice t x none (some y) none,ty,ps,af,gd⟩ arg (.d (sX g k cap)):=by
 refine ⟨fun base s ρ ev hok hbs hhp h=>?_⟩
 have h1:=h x (by simp [Op.operands])
 have h2:=h y (by simp [Op.operands])
 rw [hx] at h1;rw [hy] at h2
 have e1:ev x = .slice (some ⟨g,0,none⟩) len cap:=h1
 have e2:ev y = .int .i64 (k:Nat):=h2
 have hkc:(k:Int)≤cap:=by omega
 have hk0:(0:Int)≤(k:Int):=by omega
 have hb:∀ w,(Instr.sliceBounds true len cap none (some (.int .i64 (k:Nat))) none).run P w = .ok (0,k,cap) w:=fun w=>by
  simp [Instr.sliceBounds,Instr.sliceBound,asIntOf,hkc,hk0,hc]
  all_goals first | omega | skip
 refine Bl (v:=.slice (some ⟨g,0,none⟩) k cap) ?_ ⟨GS.Le.refl s,rfl⟩
 simp only [execOp,Option.map_none,Option.map_some,e1,e2,Instr.sliceAt,Sem.run_bind,run_underlying ht.und,Result.andThen_ok,Instr.slice,hb,he.run_size,Sem.run_pure]
 by_cases hcz:cap = 0
 ·rw [if_pos hcz]
  simp
 ·rw [if_neg hcz]
  simp [Addr.add_lit]
end
theorem Ns (f : Nat→Int) (n N g c:Nat) (Z:List Nat) (hn:n≤N) (hc:n≤c) (hN:N≤1000000):Con Tryz.prog 96 [.d (sX g n c)] [.obj (BH [⟨g,3,nC f N⟩] Z)] [] (fun r hp'=>r = .d (sX g (HJ f n) c)∧hp' = [.obj (BH [⟨g,3,nC f N⟩] Z),.dead]):=by
 refine BC Tryz.func96 rfl (As Tryz.func96 (by kernel_rfl) (by kernel_rfl)) rfl fun s0 pv0=>?_
 rw [Tryz.ntmps96]
 refine Y1<|Wa<|Y0<|Aa<|AWp.block ?_
 refine AK (fun mz σ=>∃ m,m≤n∧HJ f m = HJ f n∧mz = m∧σ = ⟨[(0,.d (sX g m c))],[.obj (BH [⟨g,3,nC f N⟩] Z),.pin [(pv0,.own 0)]]⟩) ?le ⟨n,Nat.le_refl n,rfl,rfl,rfl⟩ ?round
 case le=>exact Ag (by exact Yd<|FrLe.nil) (by exact HpLe.cons (OwLe.obj rfl)<|HpLe.cons (Bb rfl)<|HpLe.nil)
 case round =>
  rintro m _ ⟨_,hm,htr,rfl,rfl⟩
  by_cases h0:m = 0
  ·subst h0
   refine Aa<|Y1<|Wm ?_;refine Wq (Dy (ao rfl) (Ac rfl)) ?_;refine Wq Aq ?_;refine Wm ?_;refine Ws ?_;refine Ws ?_;refine Ws ?_;refine Ws ?_;refine Ws ?_;refine Ws ?_;refine Ws ?_;refine Wq AW ?_;apply Y0;refine Cf ?_;apply AF;apply Az;apply AA;apply AB;refine Yn<|Y1<|Wm<|Wa<|Y0 ?_;apply Aw
   refine Bk (RetsA.one rfl) rfl ?_ rfl
   exact ⟨by rw [← htr];rfl,rfl⟩
  ·have hm1 : m - 1 < N := by omega
   by_cases hz:f (m - 1) = 0
   ·refine Aa<|Aa<|AWp.region<|Wm ?_; refine Wq (Dy (ao rfl) (Ac rfl)) ?_; refine Wq Ar ?_; refine Wm ?_; refine Wg Ae ?_; refine Wg Ae ?_; refine Wg (Dy (ao rfl) (Ac rfl)) ?_; refine Wg El ?_; refine Wg (Co (k := m - 1) (ao rfl) (ao rfl) (Ac rfl) (Ac rfl) (by omega)) ?_; refine Wg (It 0 0 (ao rfl) rfl rfl (Ac rfl) rfl (Ej hm1)) ?_; refine Wg Ar ?_; refine Wq AU ?_; apply AWl.nil; apply Yn; refine Ct ?_; apply Bf; refine Yn<|AWp.block<|AWp.region<|Wm<|Wm ?_; refine Wq (Dy (ao rfl) (Ac rfl)) ?_; refine Wq El ?_; refine Wq (KP (k := m - 1) (ao rfl) (ao rfl) (Ac rfl) (Ac rfl) (by omega) (by omega)) ?_; refine Wa ?_; apply AWl.nil; apply Ah
    have htr':HJ f (m - 1) = HJ f n:=by
     rw [← htr]
     obtain ⟨q,rfl⟩:∃ q,m = q+1:=⟨m - 1,by omega⟩
     have hz':f q = 0:=hz
     rw [show q+1 - 1 = q from rfl,HJ,if_pos hz']
    refine ALoop.next (m - 1) (by omega) ⟨m - 1,by omega,htr',rfl,rfl⟩ ?_
    exact Ag (by exact Yd<|FrLe.nil) (by exact HpLe.cons (OwLe.obj rfl)<|HpLe.cons (Bb rfl)<|HpLe.nil)
   ·refine Aa<|Aa<|AWp.region<|Wm ?_; refine Wq (Dy (ao rfl) (Ac rfl)) ?_; refine Wq Ar ?_; refine Wm ?_; refine Wg Ae ?_; refine Wg Ae ?_; refine Wg (Dy (ao rfl) (Ac rfl)) ?_; refine Wg El ?_; refine Wg (Co (k := m - 1) (ao rfl) (ao rfl) (Ac rfl) (Ac rfl) (by omega)) ?_; refine Wg (It 0 0 (ao rfl) rfl rfl (Ac rfl) rfl (Ej hm1)) ?_; refine Wg Aq ?_; refine Wq AU ?_; apply AWl.nil; apply Yn; refine Cf ?_; apply AF; apply Az; apply AA; apply AB; refine Yn<|Aa<|AWp.region<|Wm<|Wa ?_; apply AWl.nil; apply Yn; apply Aw
    have htr':HJ f m = m:=by
     obtain ⟨q,rfl⟩:∃ q,m = q+1:=⟨m - 1,by omega⟩
     have hz':¬ f q = 0:=hz
     rw [HJ,if_neg hz']
    refine Bk (RetsA.one rfl) rfl ?_ rfl
    exact ⟨by rw [← htr,htr'],rfl⟩
theorem Ou (h : Nat→D):∀ l:List Nat,(l.map fun i=>[h i]).flatten = l.map h
 | []=>rfl
 | a :: l=>by
  have ih:=Ou h l
  rw [List.map_cons,List.flatten_cons,ih]
  rfl
theorem PU (n : Nat) (f:Nat→Int) (h0:0<n) (hn:n≤1000000):Con Tryz.prog 93 [.d (nD n f)] [] [] (fun r hp'=>∃ g c,n≤c∧c≤9223372036854775807∧r = .d (sX g n c)∧hp' = [.dead,.obj (BH [⟨g,3,nC f n⟩] [c*1])]):=by
 have hml:((List.range n).map fun i=>[ex (.int .i64 (f i))]).length = n:=by simp
 have h8:∀ k,k<((List.range n).map fun i=>[ex (.int .i64 (f i))]).length→(((List.range n).map fun i=>[ex (.int .i64 (f i))]).getD k []).length = 1:=fun k hk=>by
  rw [List.getD_eq_getElem?_getD,List.getElem?_eq_getElem hk,Option.getD_some,List.getElem_map]
  rfl
 have hfl:((List.range n).map fun i=>[ex (.int .i64 (f i))]).flatten = nC f n:=Ou _ _
 refine Fg Tryz.func93 rfl (As Tryz.func93 (by kernel_rfl) (by kernel_rfl)) rfl fun s0=>?_
 rw [Tryz.ntmps93]
 refine Y1<|Wa<|Y0<|Aa<|Y1<|Wm ?_
 refine Di rfl rfl ?_
 refine ⟨_,Mg (rows:=(List.range n).map fun i=>[ex (.int .i64 (f i))]) rfl (ao rfl) (Ac rfl) (by omega),?_⟩
 apply AWl.nil
 apply Yn
 refine Cf ?_
 apply Bf
 apply Yn
 apply Aa
 apply AWp.region
 refine Nn (Ac rfl) (Ac rfl) rfl rfl rfl rfl rfl ?_
 refine Ds (Wd 1 rfl rfl) ?_
 refine Di rfl rfl ?_
 refine ⟨_,DM (ao rfl),?_⟩
 refine Sb (r2:=(List.range n).map fun i=>[ex (.int .i64 (f i))]) (ao rfl) rfl h8 (by omega) rfl (Ac rfl) (Ac rfl) rfl rfl (by rw [hml];simp;omega) (by rw [hml];simp;omega) rfl (by first | ((repeat (first | exact PlainHp.nil | refine PlainHp.var ?_ | refine Dq ?_ | refine PlainHp.dead ?_ | refine PlainHp.obj ?_ | refine PlainHp.pin rfl ?_ | refine CS rfl ?_));done) | fail) rfl ?_
 refine XR 1 rfl (by rw [List.nil_append];omega) (fun g c=>rfl) (by first | ((repeat (first | exact PlainHp.nil | refine PlainHp.var ?_ | refine Dq ?_ | refine PlainHp.dead ?_ | refine PlainHp.obj ?_ | refine PlainHp.pin rfl ?_ | refine CS rfl ?_));done) | fail) (fun g k=>rfl) fun g c hc1 hc2=>?_
 refine Wa<|Y0 ?_;apply Aw
 refine Bk (RetsA.one rfl) rfl ?_ rfl
 exact ⟨g,c,by rwa [List.nil_append,hml] at hc1,hc2,by rw [List.nil_append,hml],by rw [List.nil_append,hfl]⟩
theorem Con.frz {P : Program} {f:FuncId} {args:List AV} {hp:List Ow} {lost:List Nat} {Q Q':AV→List Ow→Prop} (h:Con P f args hp lost Q) (hQ:∀ r hp',Q r hp'→∃ (id:Nat) (L:List HE) (Z:List Nat) (x R:D),r = .d x∧hp'[id]? = some (.obj (BH L Z))∧(∀ s:GS,(∀ e∈L,Hset s e)→∀ v,x.rel s v→R.rel s v)∧Q' (.d R) (hp'.set id .dead)):Con P f args hp lost Q':=by
 refine ⟨h.1,fun s ρ vs h1 h2 h3 h4 h5=>(h.2 s ρ vs h1 h2 h3 h4 h5).mono fun e w' ⟨v,he,s',ρ',r,hp',hq,hw,hr,ha⟩=>?_⟩
 obtain ⟨id,L,Z,x,R,rfl,hid,hrel,hq'⟩:=hQ r hp' hq
 obtain ⟨⟨g1,_⟩,_⟩:=DZ (ha.mem id _ hid)
 let s2:GS:=⟨fun b k=>s'.S b k∨∃ e,e∈L∧e.b = b,s'.tag,s'.w⟩
 have hc2:GS.Chg s' s2:=⟨Nat.le_refl _,fun _ _ hk=>.inl hk,fun b cs T fz hb=>⟨cs,fz,hb,fun _ _=>rfl⟩⟩
 have hok2:s2.Ok:=⟨fun b k hk=>hk.elim (ha.ok.lt b k) fun ⟨e,he,hb⟩=>hb ▸ (g1 e he).lt,fun b k hty=>.inl (ha.ok.safe b k hty)⟩
 have hset:∀ e∈L,Hset s2 e:=fun e he=>by
  obtain ⟨hT,hS,cs,w2,w3,w4⟩:=g1 e he
  exact ⟨cs,w2,fun k hk=>⟨.inr ⟨e,he,rfl⟩,by
   obtain ⟨u,y1,y2,y3⟩:=w4 k hk
   exact ⟨u,y1,y2,(By e.ds k).st y3 hc2⟩⟩⟩
 have hget:∀ i o,(hp'.set id .dead)[i]? = some o→(i = id∧o = .dead)∨(i ≠ id∧hp'[i]? = some o):=fun i o hi=>by
  rw [List.getElem?_set] at hi
  split at hi
  ·rename_i e
   split at hi
   ·cases hi;exact .inl ⟨e.symm,rfl⟩
   ·cases hi
  ·rename_i e
   exact .inr ⟨fun e'=>e e'.symm,hi⟩
 have hfar:∀ i o,i ≠ id→hp'[i]? = some o→∀ b,OwB s' (ρ' i) o b→s2.w.heap[b]? = s'.w.heap[b]? ∧ ∀ k,s2.S b k↔s'.S b k:=fun i o hne hi b hb=>⟨rfl,fun k=>⟨fun hk=>hk.elim (fun h=>h) fun ⟨e,he,heb⟩=>absurd ⟨e,he,heb⟩ (ha.sep i id o _ hne hi hid b hb),fun hk=>.inl hk⟩⟩
 have hlen:(hp'.set id .dead).length = hp'.length:=List.length_set ..
 have hback:∀ i o,i ≠ id→hp'[i]? = some o→∀ b,OwB s2 (ρ' i) o b→OwB s' (ρ' i) o b:=fun i o hne hi b hb=>OwB.keep (ha.mem i o hi) hc2 (hfar i o hne hi) hb
 refine ⟨v,he,s2,ρ',.d R,hp'.set id .dead,hq',hw,hrel s2 hset v (x.st hr hc2),⟨⟨ha.le.os,ha.le.tape,ha.le.output,ha.le.block,ha.le.chg.trans hc2,fun b k hb hm hk=>hk.elim (ha.le.old b k hb hm) fun hk=>((ha.own id _ b hid hk).elim (fun h=>absurd h hm) fun h=>absurd hb (by omega)),ha.le.tag,fun _=>hok2⟩,hok2,fun i o hi=>?_,fun i j o o' hij hi hj b hb hb'=>?_,fun i o b hi hb=>?_,ha.kp,by rw [hlen];exact ha.len⟩⟩
 ·show OwR 0 (hp'.set id .dead).length ρ' s2 i o
  rw [hlen]
  rcases hget i o hi with ⟨rfl,rfl⟩ | ⟨hne,hi⟩
  ·trivial
  ·exact (ha.mem i o hi).keep hc2 (hfar i o hne hi)
 ·rcases hget i o hi with ⟨rfl,rfl⟩ | ⟨hne,hi⟩
  ·exact hb.elim
  ·rcases hget j o' hj with ⟨rfl,rfl⟩ | ⟨hne',hj⟩
   ·exact hb'.elim
   ·exact ha.sep i j o o' hij hi hj b (hback i o hne hi b hb) (hback j o' hne' hj b hb')
 ·rcases hget i o hi with ⟨rfl,rfl⟩ | ⟨hne,hi⟩
  ·exact hb.elim
  ·exact ha.own i o b hi (hback i o hne hi b hb)
theorem Np {P : Program} {s0:An} {n:Nat} {c:Code} {Q:Exit→AS→Prop} {σ:AS} (σ':AS) (h:AWp P s0 n c (OnlyN (fun _ τ=>AS.le τ σ')) σ) (K:Q .normal σ'):AWp P s0 n c Q σ :=
 ⟨fun a w hs=>wp_mono (h.run a w hs) fun e a' w' ⟨τ,hq,ht⟩=>by
  obtain ⟨rfl,hq⟩:=hq
  exact ⟨σ',K,hq _ _ _ _ ht⟩⟩
theorem PureQ.index {P : Program} {hp:List Ow} {o:Oper} {arg:Operand→AV} {x y:Operand} {t:TypeId} {e n b n' b' T sz:Nat} {d:TypeDesc} {z z':Value} {rows:List (List D)} {k:IntKind} {i:Int} (hop:o.op = .indexAddr t x y) (hx:Eb hp (arg x) = some (slD T sz rows)) (hy:arg y = .d (ex (.int k i))) (ht:Tab P t (.slice e) n b z) (he:Tab P e d n' b' z') (hsz:n' = sz) (h0:0≤i) (hi:i<rows.length):PureQ P hp o arg (.d (Hf T (rows.getD i.toNat []))):=by
 refine ⟨fun base s ρ ev hok hbs hhp h=>?_⟩
 have h1:=BM hhp (h x (by rw [hop];simp [Op.operands])) hx
 have h2:=h y (by rw [hop];simp [Op.operands])
 rw [hy] at h2
 have e2:ev y = .int k i:=h2
 obtain ⟨A,c,e1,h3,h4,h5⟩:=h1
 obtain ⟨g,p,rfl,h6⟩:=h5 (by omega)
 subst hsz
 refine ⟨.pointer (some ⟨g,p+i.toNat*n',none⟩),fun w=>?_,g,_,rfl,(h6 i.toNat (by omega)).2⟩
 simp [execOp,hop,e1,e2,Instr.indexAt,asIntOf,run_underlying ht.und,h0,hi,he.run_size,Addr.add_lit]
theorem Hd {P : Program} {s0:An} {n:Nat} {ops:Array Oper} {Q:Exit→AS→Prop} {fuel:Nat} {listed:Array Bool} {σ:AS} (i j:Nat) (is js:List Nat) (hr:(Region.ready .any ops listed == [i,j]) = true) (hi:NE ops (listed.setIfInBounds i true) is = true) (hj:NE ops (listed.setIfInBounds j true) js = true) (ai:MV ops (i :: is) = true) (aj:MV ops (j :: js) = true) (fi:fuel = is.length+1) (fj:fuel = js.length+1) (h1:AWl P s0 n ops (OnlyN Q) (Ld ops (i :: is)) σ) (h2:AWl P s0 n ops (OnlyN Q) (Ld ops (j :: js)) σ):AWy P s0 n ops Q fuel listed σ:=by
 have one:∀ (k:Nat) (ks:List Nat) (a:Act) (w:World),NE ops (listed.setIfInBounds k true) ks = true→MV ops (k :: ks) = true→wpList P ops (EY s0 n (OnlyN Q)) (Ld ops (k :: ks)) a w→wpOp P ops (EY s0 n (OnlyN Q)) k (wpAny P .any ops (EY s0 n (OnlyN Q)) ks.length (listed.setIfInBounds k true)) a w:=by
  intro k ks a w hs ha h
  have hm:=HT ha
  have ha2:MV ops ks = true:=by
   simp only [MV,List.all_cons,Bool.and_eq_true] at ha ⊢
   exact ha.2
  have hm2:=HT ha2
  have hk:∃ o,ops[k]? = some o:=by
   simp only [MV,List.all_cons,Bool.and_eq_true] at ha
   exact Option.isSome_iff_exists.1 ha.1
  obtain ⟨o,ho⟩:=hk
  have e:Ld ops (k :: ks) = o :: Ld ops ks:=by simp only [Ld,ho]
  rw [e] at h
  unfold wpList at h
  unfold wpOp
  rw [ho]
  simp only
  split
  ·rename_i hw
   rw [if_pos hw] at h
   exact h.imp (Oper.wp_mono fun a w h=>HQ ks _ _ a w hs hm2 h) fun h=>h
  ·rename_i hw
   rw [if_neg hw] at h
   exact HQ ks _ _ _ w hs hm2 h
 refine ⟨fun a w hst=>?_⟩
 have hr:=eq_of_beq hr
 subst fi
 have hjl:js.length = is.length:=by omega
 refine wpAny_all hr (by simp) fun k hk=>?_
 simp only [List.mem_cons,List.not_mem_nil,or_false] at hk
 rcases hk with rfl | rfl
 ·exact one _ is a w hi ai (h1.run a w hst)
 ·exact hjl ▸ one _ js a w hj aj (h2.run a w hst)
section
variable {P : Program} {hp:List Ow} {arg:Operand→AV} {dd:Option Tmp} {ty:TypeId} {ps:String} {af:Array Edge} {gd:Option (Nat × Bool)}
theorem Fu {x : Operand} {t:TypeId} {e m b n:Nat} {z:Value} {f:Nat→Int} (hx:Eb hp (arg x) = some (nD n f)) (ht:Tab P t (.slice e) m b z):Quiet P hp ⟨dd,.call { callee:=.builtin .len,args:=#[x],argTypes:=#[t] },ty,ps,af,gd⟩ arg (.d (ex (.int .i64 (n:Nat)))):=by
 have:=Is (dd:=dd) (ty:=ty) (ps:=ps) (af:=af) (gd:=gd) (f:=fun i=>[ex (.int .i64 (f i))]) (l:=List.range n) hx ht
 rwa [List.length_range] at this
theorem KR {x y:Operand} {t:TypeId} {e n b n' b' k m:Nat} {d:TypeDesc} {z z':Value} {f:Nat→Int} {κ:IntKind} (hx:Eb hp (arg x) = some (nD m f)) (hy:arg y = .d (ex (.int κ (k:Nat)))) (ht:Tab P t (.slice e) n b z) (he:Tab P e d n' b' z') (hsz:n' = 1) (hk:k<m):Quiet P hp ⟨dd,.indexAddr t x y,ty,ps,af,gd⟩ arg (.d (Hf 3 [ex (.int .i64 (f k))])):=by
 have:=Ec (dd:=dd) (ty:=ty) (ps:=ps) (af:=af) (gd:=gd) (k:=k) (f:=fun i=>[ex (.int .i64 (f i))]) (l:=List.range m) hx hy ht he hsz (by rw [List.length_range];exact hk)
 have e:(List.range m).getD k default = k:=by simp [List.getD_eq_getElem?_getD,hk]
 rwa [e] at this
end
theorem VX {P : Program} {s0:An} {n:Nat} {c:Code} {Q:Exit→AS→Prop} {σ:AS} (S:AS→Prop) (h:AWp P s0 n c (OnlyN (fun _ τ=>∃ σ',S σ'∧AS.le τ σ')) σ) (K:∀ σ',S σ'→Q .normal σ'):AWp P s0 n c Q σ :=
 ⟨fun a w hs=>wp_mono (h.run a w hs) fun e a' w' ⟨τ,hq,ht⟩=>by
  obtain ⟨rfl,σ',hS,hq⟩:=hq
  exact ⟨σ',K σ' hS,hq _ _ _ _ ht⟩⟩
def Low (m : Nat) (o:Ow):Prop:=∀ (m':Nat) (ρ:Nat→Value) (s:GS) (i:Nat),OwR 0 m' ρ s i o→OwR 0 m ρ s i o
theorem Low.dead {m : Nat}:Low m .dead:=fun _ _ _ _ _=>trivial
theorem Low.var {m T:Nat} {cells:List AV} (h:∀ av∈cells,∀ m' ρ s v,AVr m' ρ s av v→AVr m ρ s av v):Low m (.var T cells):=fun m' ρ s i ⟨b,cs,h1,h2,h3,h4,h5,h6,h7⟩=>⟨b,cs,h1,h2,h3,h4,h5,h6,fun k av hk=>by
 obtain ⟨u,g1,g2,g3⟩:=h7 k av hk
 exact ⟨u,g1,g2,h av (List.mem_of_getElem? hk) _ _ _ _ g3⟩⟩
theorem Con.cut {P : Program} {f:FuncId} {args:List AV} {hp:List Ow} {lost:List Nat} {Q Q':AV→List Ow→Prop} (h:Con P f args hp lost Q) (hQ:∀ r hp',Q r hp'→∃ d hp2 tl,r = .d d∧hp' = hp2 ++ tl∧hp.length≤hp2.length∧(∀ o∈hp2,Low hp2.length o)∧Q' (.d d) hp2):Con P f args hp lost Q':=by
 refine ⟨h.1,fun s ρ vs h1 h2 h3 h4 h5=>(h.2 s ρ vs h1 h2 h3 h4 h5).mono fun e w' ⟨v,he,s',ρ',r,hp',hq,hw,hr,ha⟩=>?_⟩
 obtain ⟨d,hp2,tl,rfl,rfl,hl,hlow,hq'⟩:=hQ r hp' hq
 have hg:∀ i o,hp2[i]? = some o→(hp2 ++ tl)[i]? = some o:=fun i o hi=>by
  rw [List.getElem?_append_left (List.getElem?_eq_some_iff.1 hi).1]
  exact hi
 exact ⟨v,he,s',ρ',.d d,hp2,hq',hw,hr,⟨ha.le,ha.ok,fun i o hi=>hlow o (List.mem_of_getElem? hi) _ _ _ _ (ha.mem i o (hg i o hi)),fun i j o o' hij hi hj=>ha.sep i j o o' hij (hg i o hi) (hg j o' hj),fun i o b hi hb=>ha.own i o b (hg i o hi) hb,ha.kp,hl⟩⟩
theorem YH : Con Tryz.prog 90 [.d (BF []),.ptr 0 0] [.var 80 [.fn 90 [0]]] [] (fun r hp'=>r = .d (nD 1 fun d=>if d = 0 then 1 else 0)∧hp' = [.var 80 [.fn 90 [0]],.dead]):=by
 refine BC Tryz.func90 rfl (As Tryz.func90 (by kernel_rfl) (by kernel_rfl)) rfl fun s0 pv0=>?_
 rw [Tryz.ntmps90]
 refine Y1<|Wa<|Y0<|Aa<|Y1<|Wm ?_;refine Wq (CW (ms:=[]) (k:=0) rfl rfl (Ac rfl)) ?_;refine Wq Ar ?_;apply Y0;refine Ct ?_;apply Y1;(refine Di rfl rfl ?_;(refine DK (Ac rfl) (Ac rfl) rfl rfl rfl rfl rfl ?_;(repeat ((first | refine ⟨_,BA (ao rfl),?_⟩ | refine ⟨_,Po rfl,?_⟩);refine ⟨_,rfl,?_⟩));refine ⟨_,rfl,?_⟩));refine Wa<|Y0 ?_;apply Aw;apply Bc
 refine Bk (RetsA.one rfl) rfl ?_ rfl
 exact ⟨rfl,rfl⟩
theorem YG (a : Nat→Int) (l:Af) (hz:Gl a (fun _=>0) = true) (hl:l.length≤1000):Con Tryz.prog 90 [.d (BF (a :: l)),.ptr 0 0] [.var 80 [.fn 90 [0]]] [] (fun r hp'=>r = .d (ex (.slice none 0 0))∧hp' = [.var 80 [.fn 90 [0]],.dead]):=by
 refine BC Tryz.func90 rfl (As Tryz.func90 (by kernel_rfl) (by kernel_rfl)) rfl fun s0 pv0=>?_
 rw [Tryz.ntmps90]
 refine Y1<|Wa<|Y0<|Aa<|Y1<|Wm ?_;refine Wq Ca ?_;refine Wq Aq ?_;apply Y0;refine Cf ?_;refine Ys<|Aa<|Y1<|Wm ?_;refine Wq Mc ?_;refine Wq AR ?_;(refine Di rfl rfl ?_;(refine EM (Ac rfl) (Ac rfl) rfl rfl ?_;(repeat ((first | refine ⟨_,BA (ao rfl),?_⟩ | refine ⟨_,Po rfl,?_⟩);refine ⟨_,rfl,?_⟩));refine ⟨_,rfl,?_⟩));refine Wq (Mh (b:=fun _=>0) (ao rfl) (ao rfl) hz) ?_;apply Y0;refine Ct ?_;refine Y1<|Wa<|Y0 ?_;apply Aw;apply Bc
 refine Bk (RetsA.one rfl) rfl ?_ rfl
 exact ⟨rfl,rfl⟩
theorem Gp : Tab Tryz.prog 80 (.func #[28] #[30] false) 1 8 .nilFunc:=⟨Tryz.underlying80,by kernel_rfl⟩
abbrev OfC (l : Af) (n:Nat) (f:Nat→Int):Prop:=Con Tryz.prog 90 [.d (BF l),.ptr 0 0] [.var 80 [.fn 90 [0]]] [] (fun r hp'=>r = .d (nD n f)∧hp' = [.var 80 [.fn 90 [0]],.dead])
abbrev OfW (l : Af) (n:Nat) (f:Nat→Int):Prop:=Con Tryz.prog 90 [.d (BF l),.ptr 0 0] [.var 80 [.fn 90 [0]]] [] (fun r hp'=>∃ g c N,n≤N∧N≤c∧N≤100000∧c≤9223372036854775807∧r = .d (sX g n c)∧hp' = [.var 80 [.fn 90 [0]],.dead,.dead,.dead,.dead,.dead,.obj (BH [⟨g,3,nC f N⟩] [c*1]),.dead])
theorem YN : Low 2 (.var 80 [.fn 90 [0]]):=Low.var fun av hav m' ρ s v h=>by
 rw [List.mem_singleton.1 hav] at h ⊢
 exact ⟨fun i hi=>by rw [List.mem_singleton.1 hi];omega,h.2⟩
theorem OfW.ofC {l : Af} {n:Nat} {f:Nat→Int} (h:OfW l n f):OfC l n f:=by
 refine (h.frz (Q':=fun r hp'=>r = .d (nD n f)∧hp' = [.var 80 [.fn 90 [0]],.dead,.dead,.dead,.dead,.dead,.dead,.dead]) fun r hp' ⟨g,c,N,h1,h2,_,h3,h4,h5⟩=>?_).cut fun r hp' ⟨h1,h2⟩=>?_
 ·subst h4 h5
  exact ⟨6,_,_,_,nD n f,rfl,rfl,fun s hs v hv=>Yg (hs _ List.mem_cons_self) h1 (by omega) h3 hv,rfl,rfl⟩
 ·subst h1 h2
  refine ⟨_,[.var 80 [.fn 90 [0]],.dead],[.dead,.dead,.dead,.dead,.dead,.dead],rfl,rfl,by decide,fun o ho=>?_,rfl,rfl⟩
  rcases List.mem_cons.1 ho with rfl | ho
  ·exact YN
  ·rw [List.mem_singleton.1 ho]
   exact Low.dead
theorem Lb {a : Nat→Int} {l:Af} {k:Nat} (h:k<l.length):((l.take k).map fun y=>qM y a) ++ [qM (AC l k) a] = (l.take (k+1)).map fun y=>qM y a:=by
 have e:AC l k = l[k]:=by rw [AC,List.getD_eq_getElem?_getD,List.getElem?_eq_getElem h];rfl
 rw [List.take_add_one,List.getElem?_eq_getElem h,e,List.map_append]
 rfl
theorem RE {a : Nat→Int} (h:∀ j,j<8→0≤a j):CI a 8 = ((BN 8 0 a:Nat):Int):=by
 have h0:=h 0 (by omega);have h1:=h 1 (by omega);have h2:=h 2 (by omega);have h3:=h 3 (by omega)
 have h4:=h 4 (by omega);have h5:=h 5 (by omega);have h6:=h 6 (by omega);have h7:=h 7 (by omega)
 simp only [CI,BN,Nat.zero_add,Nat.reduceAdd]
 omega
theorem YT {a : Nat→Int} (h:In8 a 0 64):BN 8 0 a≤512:=by
 have h0:=h 0 (by omega);have h1:=h 1 (by omega);have h2:=h 2 (by omega);have h3:=h 3 (by omega)
 have h4:=h 4 (by omega);have h5:=h 5 (by omega);have h6:=h 6 (by omega);have h7:=h 7 (by omega)
 simp only [BN,Nat.zero_add,Nat.reduceAdd]
 omega
def mX (n1 d i:Nat):Nat:=if i = 0 then n1 else max n1 (d+i)
def kX (f1 f2:Nat→Int) (d i:Nat) (t:Nat):Int:=f1 t - if d≤t∧t<d+i then f2 (t - d) else 0
theorem WP (f1 f2:Nat→Int) (d:Nat):kX f1 f2 d 0 = f1:=by
 funext t
 have:¬ (d≤t∧t<d+0):=by omega
 rw [kX,if_neg this,Int.sub_zero]
theorem WQ (f1 f2:Nat→Int) (d i:Nat):(fun j=>if j = i+d then kX f1 f2 d i (i+d) - f2 i else kX f1 f2 d i j) = kX f1 f2 d (i+1):=by
 funext t
 by_cases h:t = i+d
 ·subst h
  rw [if_pos rfl,kX,kX,if_neg (by omega),if_pos (by omega),Int.sub_zero,show i+d - d = i by omega]
 ·rw [if_neg h,kX,kX]
  by_cases h2:d≤t∧t<d+i
  ·rw [if_pos h2,if_pos (by omega)]
  ·rw [if_neg h2,if_neg (by omega)]
theorem YO {f1 f2:Nat→Int} {n1 d i m:Nat} (z1:∀ i,n1≤i→f1 i = 0) (h:mX n1 d i≤m):kX f1 f2 d i m = 0:=by
 have h1:n1≤m:=by unfold mX at h;split at h <;> omega
 have h2:¬ (d≤m∧m<d+i):=by unfold mX at h;split at h <;> omega
 rw [kX,if_neg h2,z1 m h1,Int.sub_zero]
theorem YP {f1 f2:Nat→Int} {n2 d:Nat} (z2:∀ i,n2≤i→f2 i = 0):kX f1 f2 d n2 = fun t=>f1 t - Gg d f2 t:=by
 funext t
 rw [kX,Gg]
 by_cases h:d≤t
 ·rw [if_pos h]
  by_cases h2:t<d+n2
  ·rw [if_pos ⟨h,h2⟩]
  ·rw [if_neg (fun h=>h2 h.2),z2 _ (by omega)]
 ·rw [if_neg (fun h'=>h h'.1),if_neg h]
theorem WN (n1 d i:Nat):mX n1 d (i+1) = max (mX n1 d i) (i+d+1):=by
 unfold mX
 split <;> split <;> omega
theorem Yi {n1 d i:Nat} (h1:n1≤10000) (hd:d≤512) (hi:i≤10000):mX n1 d i≤20000:=by
 unfold mX
 split <;> omega
theorem XZ (y a:Nat→Int) (h:∀ j,j<8→0≤y j) (j:Nat) (hj:j<8):0≤qM y a j:=by
 have:=h j hj
 unfold qM
 omega
theorem Up (a : Nat→Int) (l:Af) (n1 n2:Nat) (f1 f2:Nat→Int) (hz:Gl a (fun _=>0) = false) (hl:l.length≤12) (ha:In8 a 0 64) (hll:∀ y∈l,In8 y 0 64) (c1:OfC l n1 f1) (c2:OfC (He (l.map fun y=>qM y a)) n2 f2) (h1:0<n1) (hn1:n1≤10000) (hn2:n2≤10000) (b1:∀ i,-100000≤f1 i∧f1 i≤100000) (b2:∀ i,-100000≤f2 i∧f2 i≤100000) (z1:∀ i,n1≤i→f1 i = 0) (z2:∀ i,n2≤i→f2 i = 0) :
  OfW (a :: l) (HJ (fun d=>f1 d - Gg (BN 8 0 a) f2 d) (mX n1 (BN 8 0 a) n2)) (fun d=>f1 d - Gg (BN 8 0 a) f2 d):=by
 have hd0:=YT ha
 have cdeg:Abs Tryz.prog 94 [BK (AE a)] (ex (.int .i64 (BN 8 0 a:Nat))):=RE (fun j hj=>(ha j hj).1) ▸ Ob a (ha.mono (by omega) (by omega))
 generalize hdd:BN 8 0 a = d at hd0 cdeg ⊢
 have c2':=c2
 refine BC Tryz.func90 rfl (As Tryz.func90 (by kernel_rfl) (by kernel_rfl)) rfl fun s0 pv0=>?_
 rw [Tryz.ntmps90]
 refine Y1<|Wa<|Y0<|Aa<|Y1<|Wm ?_;refine Wq Ca ?_;refine Wq Aq ?_;apply Y0;refine Cf ?_;refine Ys<|Aa<|Y1<|Wm ?_;refine Wq Mc ?_;refine Wq AR ?_;(refine Di rfl rfl ?_;(refine EM (Ac rfl) (Ac rfl) rfl rfl ?_;(repeat ((first | refine ⟨_,BA (ao rfl),?_⟩ | refine ⟨_,Po rfl,?_⟩);refine ⟨_,rfl,?_⟩));refine ⟨_,rfl,?_⟩));refine Wq (Mi (b:=fun _=>0) (ao rfl) (ao rfl) hz) ?_;apply Y0;refine Cf ?_;refine Ys<|Aa ?_
 refine Np ⟨[(1,.ptr 0 0),(4,.ptr 2 0),(5,.d (BF l))],[.var 80 [.fn 90 [0]],.pin [(pv0,.own 0)],.var 55 ((AE a).map .d)]⟩ ?_ ?_
 ·refine AWp.any (by kernel_rfl) ?_
  refine EJ 0 rfl rfl rfl (by kernel_rfl) (by kernel_rfl) (by kernel_rfl) rfl (PureQ.move rfl (ao rfl)) ?_
  refine EJ 1 rfl rfl rfl (by kernel_rfl) (by kernel_rfl) (by kernel_rfl) rfl (PureQ.index (i:=0) (rows:=(a :: l).map AE) rfl rfl (ao rfl) (Ac rfl) (Ac rfl) rfl (by omega) (by simp)) ?_
  refine EJ 3 rfl rfl rfl (by kernel_rfl) (by kernel_rfl) (by kernel_rfl) rfl (PureQ.move rfl (ao rfl)) ?_
  refine EJ 4 rfl rfl rfl (by kernel_rfl) (by kernel_rfl) (by kernel_rfl) rfl (Pd (f:=AE) (l:=a :: l) (i:=1) rfl rfl (ao rfl) (Ac rfl) (Ac rfl) rfl (by simp)) ?_
  refine Hd 2 5 [5,6,7] [2,6,7] (by kernel_rfl) (by kernel_rfl) (by kernel_rfl) (by kernel_rfl) (by kernel_rfl) rfl rfl ?_ ?_
  ·refine Wq AR ?_;refine Al ?_;refine Sf ?_;refine Wa ?_;apply AWl.nil;apply OnlyN.mk';apply OnlyN.mk'
   exact Ag (by exact Yp<|Yp<|Yd<|FrLe.nil) (by exact HpLe.cons (BP rfl)<|HpLe.cons (Bb rfl)<|Yv<|HpLe.nil)
  ·refine Al ?_;refine Wq AR ?_;refine Sf ?_;refine Wa ?_;apply AWl.nil;apply OnlyN.mk';apply OnlyN.mk'
   exact Ag (by exact Yp<|Yp<|Yd<|FrLe.nil) (by exact HpLe.cons (BP rfl)<|HpLe.cons (Bb rfl)<|Yv<|HpLe.nil)
 ·refine Yn<|Y1<|Wa<|Y0<|Aa<|Y1<|Wm ?_;refine Wq Ca ?_;refine Wm<|Y0<|AWp.block ?_
  refine HI 6 55 8 rfl (by decide) (by decide) rfl rfl ?_
  refine AK (fun mz σ=>∃ k,k≤l.length∧mz = l.length - k∧σ = ⟨[(1,.ptr 0 0),(4,.ptr 2 0),(5,.d (BF l)),(6,.own 3),(29,.d (BF l)),(30,.d (ex (.int .i64 (l.length:Nat)))),(31,.d (ex (.int .i64 (k:Nat))))],[.var 80 [.fn 90 [0]],.pin [(pv0,.own 0)],.var 55 ((AE a).map .d),.row 55 8 ((((l.take k).map fun y=>qM y a)).map AE)]⟩) ?le ⟨0,by omega,rfl,rfl⟩ ?round
  case le=>exact Ag (by exact Yp<|Yp<|Yd<|FrLe.cons rfl (AVle.own rfl)<|Yd<|Yd<|Yd<|FrLe.nil) (by exact HpLe.cons (BP rfl)<|HpLe.cons (Bb rfl)<|Yv<|Yr<|HpLe.nil)
  case round =>
   rintro mz _ ⟨k,hk,rfl,rfl⟩
   by_cases hlt:k<l.length
   ·have hy:In8 (AC l k) 0 64:=hll _ (EW hlt)
    have hy2:In8 (AC l k) 0 100000:=hy.mono (by omega) (by omega)
    have hgi:In8 (UC (AC l k) a) 0 100000:=fun j hj=>by
     have h1:=hy j hj
     have h2:=ha j hj
     show 0≤min (AC l k j) (a j)∧min (AC l k j) (a j)≤100000
     omega
    have hq:Abs Tryz.prog 91 [BK (AE (AC l k)),BK (AE (UC (AC l k) a))] (DP [BK (AE (qM (AC l k) a)),ex (.bool true)]):=UF (AC l k) (UC (AC l k) a) (WK _ _) hgi hy2
    apply Y1;refine Wq Ar ?_;refine Y0<|Aa ?_;refine Ct ?_;refine Ys<|Aa<|AWp.block<|Y1 ?_;refine Wq Bd ?_;refine Wq AR ?_;refine Al ?_;refine Sf ?_;refine Y0<|Aa ?_
    refine Nq (Nl (e:=7) (by kernel_rfl) (K4 (K4 (AddE.keep (AddE.add (AddE.keep AddE.nil))))) (by kernel_rfl)) [[],[],[],[(37,1),(38,2)],[(36,0),(39,3)],[(40,4)],[(35,5)],[(35,5)],[]] [[],[],[],[1,2],[0,1,2,3],[0,1,2,3,4],[0,1,2,3,4,5],[0,1,2,3,4,5],[]] rfl (by kernel_rfl) (by kernel_rfl) (by kernel_rfl) ?_
    refine Xq AL ?_;refine Xq AL ?_;refine Xq AL ?_;refine Xq (Am (UG (AC l k) a)) ?_;refine Xq (Am (hq)) ?_;refine Xq Ae ?_;refine Xq Cu ?_;refine Xq Cu ?_;refine Xn ?_;refine ⟨_,rfl,?_⟩
    refine Sf ?_;refine Wa ?_;apply AWl.nil;apply OnlyN.mk';refine Yn<|AWp.region<|Wm ?_;refine Wq AL ?_;refine Wq (Ey (ao rfl) (Ac rfl) (Ac rfl) rfl rfl rfl rfl rfl) ?_;(refine Ap ?_);refine Wa ?_;apply AWl.nil;apply Ah;refine Yn<|AWp.region ?_;refine Wq AG ?_;refine Wm ?_;apply AWl.nil
    refine ALoop.next (l.length - (k+1)) (by omega) ⟨k+1,by omega,rfl,rfl⟩ ?_
    exact Ag (by exact Yp<|Yp<|Yd<|FrLe.cons rfl (AVle.own rfl)<|Yd<|Yd<|Yd<|FrLe.nil) (by refine HpLe.cons (BP rfl) ?_;refine HpLe.cons (Bb rfl) ?_;apply Yv;refine HpLe.cons (DJ ((If AE _ (qM (AC l k) a)).trans (by rw [Lb hlt]))) ?_;exact HpLe.nil)
   ·obtain rfl : k = l.length := by omega
    apply Y1;refine Wq Aq ?_;refine Y0<|Aa ?_;refine Cf ?_;apply AF;apply Az;apply AA;apply AB;refine Yn<|Y1 ?_
    refine Di rfl rfl ?_;refine ⟨_,Cn (ao rfl) rfl Gp rfl rfl,?_⟩
    refine Wm ?_
    refine Bi [0] [0] (c1) (by first | exact Or.inl rfl | exact Or.inr ⟨by decide,rfl,by repeat (first | exact AvoidR.nil | refine AJ rfl ?_ | refine AvoidR.dead ?_ | refine AP ?_ | refine AvoidR.obj ?_ | refine AH ?_ | refine AI rfl ?_ | refine AvoidR.pin rfl ?_)⟩) rfl rfl (by first | exact .inl ⟨rfl,rfl⟩ | exact .inr ⟨rfl,rfl⟩) (by repeat (first | exact ArgsC.nil | refine ArgsC.d rfl (D.le.refl _) ?_ | refine AZ rfl rfl ?_)) (by decide) (by repeat (first | exact SelR.nil | refine SelR.var rfl ?_ | refine SelR.obj rfl ?_ | refine Bh rfl ?_ | refine Ba rfl rfl rfl ?_)) (by repeat (first | exact trivial | refine ⟨⟨_,_,rfl⟩,?_⟩)) rfl ?_
    rintro _ _ ⟨rfl,rfl⟩
    refine ⟨_,_,_,(by first | exact AVRen.d | exact AVRen.own rfl | exact AVRen.ptr rfl | exact AVRen.fn rfl),(by repeat (first | exact SetR.nil | (apply SetR.cons;(first | exact OwRen.dead | exact Aj | exact OwRen.obj | exact Ao | exact Ak rfl);exact rfl))),(by repeat (first | exact AppR.nil | (apply AppR.cons;(first | exact OwRen.dead | exact Aj | exact OwRen.obj | exact Ao | exact Ak rfl);exact rfl))),?_⟩
    try simp only [Be,Bo]
    skip
    refine Bi [] [] (PU n1 f1 h1 (by omega)) (.inl rfl) rfl rfl (.inl ⟨rfl,rfl⟩) (by repeat (first | exact ArgsC.nil | refine ArgsC.d rfl (D.le.refl _) ?_ | refine AZ rfl rfl ?_)) (by decide) SelR.nil trivial rfl ?_
    rintro _ _ ⟨g,c,hc1,hc2,rfl,rfl⟩
    refine ⟨_,_,_,(by first | exact AVRen.d | exact AVRen.own rfl | exact AVRen.ptr rfl | exact AVRen.fn rfl),(by repeat (first | exact SetR.nil | (apply SetR.cons;(first | exact OwRen.dead | exact Aj | exact OwRen.obj | exact Ao | exact Ak rfl);exact rfl))),(by repeat (first | exact AppR.nil | (apply AppR.cons;(first | exact OwRen.dead | exact Aj | exact OwRen.obj | exact Ao | exact Ak rfl);exact rfl))),?_⟩
    try simp only [Be,Bo]
    refine Wa<|Y0<|Y1 ?_;refine Wq AL ?_;refine Wq (Am (cdeg)) ?_;refine Wa<|Y0<|Aa<|Aa ?_
    have cm:Abs Tryz.prog 95 [BF ((l.take l.length).map fun y=>qM y a)] (BF (He (l.map fun y=>qM y a))):=by
     rw [List.take_length]
     refine Nk (l.map fun y=>qM y a) (by rw [List.length_map];omega) fun x hx j hj=>?_
     obtain ⟨y,hy,rfl⟩:=List.mem_map.1 hx
     exact XZ y a (fun j hj=>(hll y hy j hj).1) j hj
    refine Np ⟨[(11,.d (sX g n1 c)),(12,.d (ex (.int .i64 (d:Nat)))),(57,.d (nD n2 f2)),(58,.d (ex (.int .i64 (n2:Nat)))),(59,.d (ex (.int .i64 ((0:Nat):Int))))],[.var 80 [.fn 90 [0]],.pin [(pv0,.own 0)],.dead,.dead,.dead,.dead,.obj (BH [⟨g,3,nC f1 n1⟩] [c*1])]⟩ ?_ ?_
    ·refine AWp.any (by kernel_rfl) ?_
     refine EJ 1 rfl rfl rfl (by kernel_rfl) (by kernel_rfl) (by kernel_rfl) rfl (PureQ.move rfl (ao rfl)) ?_
     refine EJ 5 rfl rfl rfl (by kernel_rfl) (by kernel_rfl) (by kernel_rfl) rfl (PureQ.move rfl (ao rfl)) ?_
     refine Hd 0 2 [2,3,4] [0,3,4] (by kernel_rfl) (by kernel_rfl) (by kernel_rfl) (by kernel_rfl) (by kernel_rfl) rfl rfl ?_ ?_
     ·refine Wq (Cn (ao rfl) rfl Gp rfl rfl) ?_;refine Wq (Am (cm)) ?_
      refine Bi [0] [0] (c2) (by first | exact Or.inl rfl | exact Or.inr ⟨by decide,rfl,by repeat (first | exact AvoidR.nil | refine AJ rfl ?_ | refine AvoidR.dead ?_ | refine AP ?_ | refine AvoidR.obj ?_ | refine AH ?_ | refine AI rfl ?_ | refine AvoidR.pin rfl ?_)⟩) rfl rfl (by first | exact .inl ⟨rfl,rfl⟩ | exact .inr ⟨rfl,rfl⟩) (by repeat (first | exact ArgsC.nil | refine ArgsC.d rfl (D.le.refl _) ?_ | refine AZ rfl rfl ?_)) (by decide) (by repeat (first | exact SelR.nil | refine SelR.var rfl ?_ | refine SelR.obj rfl ?_ | refine Bh rfl ?_ | refine Ba rfl rfl rfl ?_)) (by repeat (first | exact trivial | refine ⟨⟨_,_,rfl⟩,?_⟩)) rfl ?_
      rintro _ _ ⟨rfl,rfl⟩
      refine ⟨_,_,_,(by first | exact AVRen.d | exact AVRen.own rfl | exact AVRen.ptr rfl | exact AVRen.fn rfl),(by repeat (first | exact SetR.nil | (apply SetR.cons;(first | exact OwRen.dead | exact Aj | exact OwRen.obj | exact Ao | exact Ak rfl);exact rfl))),(by repeat (first | exact AppR.nil | (apply AppR.cons;(first | exact OwRen.dead | exact Aj | exact OwRen.obj | exact Ao | exact Ak rfl);exact rfl))),?_⟩
      try simp only [Be,Bo]
      refine Wq (Fu rfl (Ac rfl)) ?_;apply AWl.nil;apply OnlyN.mk';apply OnlyN.mk'
      exact Ag (by exact Yd<|Yd<|Yd<|Yd<|Yd<|FrLe.nil) (by exact HpLe.cons (BP rfl)<|HpLe.cons (Bb rfl)<|HpLe.cons (OwLe.dead)<|HpLe.cons (OwLe.dead)<|HpLe.cons (OwLe.dead)<|HpLe.cons (OwLe.dead)<|HpLe.cons (OwLe.obj rfl)<|HpLe.nil)
     ·refine Wq (Am (cm)) ?_;refine Wq (Cn (ao rfl) rfl Gp rfl rfl) ?_
      refine Bi [0] [0] (c2) (by first | exact Or.inl rfl | exact Or.inr ⟨by decide,rfl,by repeat (first | exact AvoidR.nil | refine AJ rfl ?_ | refine AvoidR.dead ?_ | refine AP ?_ | refine AvoidR.obj ?_ | refine AH ?_ | refine AI rfl ?_ | refine AvoidR.pin rfl ?_)⟩) rfl rfl (by first | exact .inl ⟨rfl,rfl⟩ | exact .inr ⟨rfl,rfl⟩) (by repeat (first | exact ArgsC.nil | refine ArgsC.d rfl (D.le.refl _) ?_ | refine AZ rfl rfl ?_)) (by decide) (by repeat (first | exact SelR.nil | refine SelR.var rfl ?_ | refine SelR.obj rfl ?_ | refine Bh rfl ?_ | refine Ba rfl rfl rfl ?_)) (by repeat (first | exact trivial | refine ⟨⟨_,_,rfl⟩,?_⟩)) rfl ?_
      rintro _ _ ⟨rfl,rfl⟩
      refine ⟨_,_,_,(by first | exact AVRen.d | exact AVRen.own rfl | exact AVRen.ptr rfl | exact AVRen.fn rfl),(by repeat (first | exact SetR.nil | (apply SetR.cons;(first | exact OwRen.dead | exact Aj | exact OwRen.obj | exact Ao | exact Ak rfl);exact rfl))),(by repeat (first | exact AppR.nil | (apply AppR.cons;(first | exact OwRen.dead | exact Aj | exact OwRen.obj | exact Ao | exact Ak rfl);exact rfl))),?_⟩
      try simp only [Be,Bo]
      refine Wq (Fu rfl (Ac rfl)) ?_;apply AWl.nil;apply OnlyN.mk';apply OnlyN.mk'
      exact Ag (by exact Yd<|Yd<|Yd<|Yd<|Yd<|FrLe.nil) (by exact HpLe.cons (BP rfl)<|HpLe.cons (Bb rfl)<|HpLe.cons (OwLe.dead)<|HpLe.cons (OwLe.dead)<|HpLe.cons (OwLe.dead)<|HpLe.cons (OwLe.dead)<|HpLe.cons (OwLe.obj rfl)<|HpLe.nil)
    ·refine Yn<|AWp.block ?_
     refine AK (fun mz σ=>∃ i,i≤n2∧mz = n2 - i∧∃ g2 c2,mX n1 d i≤c2∧c2≤9223372036854775807∧σ = ⟨[(11,.d (sX g2 (mX n1 d i) c2)),(12,.d (ex (.int .i64 (d:Nat)))),(57,.d (nD n2 f2)),(58,.d (ex (.int .i64 (n2:Nat)))),(59,.d (ex (.int .i64 (i:Nat))))],[.var 80 [.fn 90 [0]],.pin [(pv0,.own 0)],.dead,.dead,.dead,.dead,.obj (BH [⟨g2,3,nC (kX f1 f2 d i) (mX n1 d i)⟩] [c2*1])]⟩) ?le ⟨0,by omega,rfl,g,c,hc1,hc2,rfl⟩ ?round
     case le=>exact Ag (by exact Yd<|Yd<|Yd<|Yd<|Yd<|FrLe.nil) (by refine HpLe.cons (BP rfl) ?_;refine HpLe.cons (Bb rfl) ?_;refine HpLe.cons (OwLe.dead) ?_;refine HpLe.cons (OwLe.dead) ?_;refine HpLe.cons (OwLe.dead) ?_;refine HpLe.cons (OwLe.dead) ?_;(refine HpLe.cons (OwLe.obj (by rw [WP];rfl)) ?_);exact HpLe.nil)
     case round =>
      rintro mz _ ⟨i,hi,rfl,g2,c2,hc3,hc4,rfl⟩
      by_cases hlt:i<n2
      ·apply Y1;refine Wq Ar ?_;refine Y0<|Aa ?_;refine Ct ?_;refine Ys<|Aa<|AWp.block<|Y1<|Wm ?_;refine Wq (KR (k:=i) rfl (ao rfl) (Ac rfl) (Ac rfl) rfl hlt) ?_;refine Wq Em ?_;refine Wa<|Wa<|Y0<|Aa<|AWp.block ?_
       have hmx:=Yi (n1:=n1) (d:=d) (i:=i) hn1 hd0 (by omega)
       refine AK (fun mz σ=>∃ m,mX n1 d i≤m∧m≤max (mX n1 d i) (i+d+1)∧mz = 100000 - m∧∃ g2 c2,m≤c2∧c2≤9223372036854775807∧σ = ⟨[(11,.d (sX g2 m c2)),(12,.d (ex (.int .i64 (d:Nat)))),(13,.d (ex (.int .i64 (i:Nat)))),(14,.d (ex (.int .i64 (f2 i)))),(57,.d (nD n2 f2)),(58,.d (ex (.int .i64 (n2:Nat)))),(59,.d (ex (.int .i64 (i:Nat))))],[.var 80 [.fn 90 [0]],.pin [(pv0,.own 0)],.dead,.dead,.dead,.dead,.obj (BH [⟨g2,3,nC (kX f1 f2 d i) m⟩] [c2*1])]⟩) ?le2 ⟨mX n1 d i,by omega,by omega,rfl,g2,c2,hc3,hc4,rfl⟩ ?round2
       case le2=>exact Ag (by exact Yd<|Yd<|Yd<|Yd<|Yd<|Yd<|Yd<|FrLe.nil) (by exact HpLe.cons (BP rfl)<|HpLe.cons (Bb rfl)<|HpLe.cons (OwLe.dead)<|HpLe.cons (OwLe.dead)<|HpLe.cons (OwLe.dead)<|HpLe.cons (OwLe.dead)<|HpLe.cons (OwLe.obj rfl)<|HpLe.nil)
       case round2 =>
        rintro mz _ ⟨m,hm1,hm2,rfl,g2,c2,hc3,hc4,rfl⟩
        by_cases hle:m≤i+d
        ·refine Aa<|Aa<|AWp.region<|Wm ?_; refine Wq (Dy (ao rfl) (Ac rfl)) ?_; refine Wm<|Wm ?_; refine Wq CP ?_; refine Wq Ar ?_; apply AWl.nil; apply Yn; refine Ct ?_; apply Bf; refine Yn<|AWp.block<|AWp.region<|Wm ?_; (refine Di rfl rfl ?_; (refine DK (Ac rfl) (Ac rfl) rfl rfl rfl rfl rfl ?_; (repeat ((first | refine ⟨_, BA (ao rfl), ?_⟩ | refine ⟨_, Po rfl, ?_⟩); refine ⟨_, rfl, ?_⟩)); refine ⟨_, rfl, ?_⟩))
         have hsn:=WG (f:=kX f1 f2 d i) (n:=m) (YO z1 hm1)
         refine Sa (sz:=1) (r:=[ex (.int .i64 0)]) 6 0 (ao rfl) rfl rfl rfl (by rw [Hu,Nat.mul_one]) (by decide) hc3 hc4 rfl rfl (Ac rfl) (Ac rfl) rfl rfl (by omega) (by omega) (fun g c=>rfl) fun g3 c3 hd1 hd2=>?_
         refine Wa ?_;apply AWl.nil;apply Ah
         refine ALoop.next (100000 - (m+1)) (by omega) ⟨m+1,by omega,by omega,rfl,g3,c3,hd1,hd2,rfl⟩ ?_
         exact Ag (by exact Yd<|Yd<|Yd<|Yd<|Yd<|Yd<|Yd<|FrLe.nil) (by refine HpLe.cons (BP rfl) ?_;refine HpLe.cons (Bb rfl) ?_;refine HpLe.cons (OwLe.dead) ?_;refine HpLe.cons (OwLe.dead) ?_;refine HpLe.cons (OwLe.dead) ?_;refine HpLe.cons (OwLe.dead) ?_;(refine HpLe.cons (OwLe.obj (by show BH [⟨g3,_,nC (kX f1 f2 d i) m ++ [ex (.int .i64 0)]⟩] _ = _;rw [hsn];rfl)) ?_);exact HpLe.nil)
        ·have hm : m = mX n1 d (i + 1) := by rw [WN]; omega
         refine Aa<|Y1<|Wm ?_;refine Wq (Dy (ao rfl) (Ac rfl)) ?_;refine Wm<|Wm ?_;refine Wq CP ?_;refine Wq Aq ?_;apply Y0;refine Cf ?_;apply AF;apply Az;apply AA;apply AB;refine Yn<|AWp.region<|Wm<|Wm<|Wm ?_;refine Wq CP ?_
         have hlt2:i+d<m:=by omega
         have hk0:kX f1 f2 d i (i+d) = f1 (i+d):=by rw [kX,if_neg (by omega),Int.sub_zero]
         have hb1:=b1 (i+d)
         have hb2:=b2 i
         rw [← hk0] at hb1
         have hst:SetAt (nC (kX f1 f2 d i) m) ((i+d)*1) [ex (.int .i64 (kX f1 f2 d i (i+d) - f2 i))] (nC (kX f1 f2 d (i+1)) m):=WQ f1 f2 d i ▸ MF hlt2
         refine Wq (Co (k:=i+d) (ao rfl) (ao rfl) (Ac rfl) (Ac rfl) hlt2) ?_;refine Wq (It 6 0 (ao rfl) rfl rfl (Ac rfl) rfl (Ej hlt2)) ?_;refine Wm ?_;refine Wq DS ?_;refine Wq (Co (k:=i+d) (ao rfl) (ao rfl) (Ac rfl) (Ac rfl) hlt2) ?_;refine Pj 6 0 (ao rfl) (ao rfl) rfl rfl (Ac rfl) (Bw rfl) hst rfl ?_;apply AWl.nil;apply Ah;refine Yn<|AWp.region ?_;refine Wq AG ?_;refine Wm ?_;apply AWl.nil
         subst hm
         refine ALoop.next (n2 - (i+1)) (by omega) ⟨i+1,by omega,rfl,g2,c2,hc3,hc4,rfl⟩ ?_
         exact Ag (by exact Yd<|Yd<|Yd<|Yd<|Yd<|FrLe.nil) (by exact HpLe.cons (BP rfl)<|HpLe.cons (Bb rfl)<|HpLe.cons (OwLe.dead)<|HpLe.cons (OwLe.dead)<|HpLe.cons (OwLe.dead)<|HpLe.cons (OwLe.dead)<|HpLe.cons (OwLe.obj rfl)<|HpLe.nil)
      ·obtain rfl : n2 = i := by omega
       apply Y1;refine Wq Aq ?_;refine Y0<|Aa ?_;refine Cf ?_;apply AF;apply Az;apply AA;apply AB;refine Yn<|Y1<|Wm ?_
       have hmx:=Yi (n1:=n1) (d:=d) (i:=n2) hn1 hd0 hn2
       rw [YP (f1:=f1) (d:=d) z2]
       refine Bi [6] [] (Ns (fun t=>f1 t - Gg d f2 t) (mX n1 d n2) (mX n1 d n2) g2 c2 [c2*1] (Nat.le_refl _) hc3 (by omega)) (by first | exact Or.inl rfl | exact Or.inr ⟨by decide,rfl,by repeat (first | exact AvoidR.nil | refine AJ rfl ?_ | refine AvoidR.dead ?_ | refine AP ?_ | refine AvoidR.obj ?_ | refine AH ?_ | refine AI rfl ?_ | refine AvoidR.pin rfl ?_)⟩) rfl rfl (by first | exact .inl ⟨rfl,rfl⟩ | exact .inr ⟨rfl,rfl⟩) (by repeat (first | exact ArgsC.nil | refine ArgsC.d rfl (D.le.refl _) ?_ | refine AZ rfl rfl ?_)) (by decide) (by repeat (first | exact SelR.nil | refine SelR.var rfl ?_ | refine SelR.obj rfl ?_ | refine Bh rfl ?_ | refine Ba rfl rfl rfl ?_)) (by repeat (first | exact trivial | refine ⟨⟨_,_,rfl⟩,?_⟩)) rfl ?_
       rintro _ _ ⟨rfl,rfl⟩
       refine ⟨_,_,_,(by first | exact AVRen.d | exact AVRen.own rfl | exact AVRen.ptr rfl | exact AVRen.fn rfl),(by repeat (first | exact SetR.nil | (apply SetR.cons;(first | exact OwRen.dead | exact Aj | exact OwRen.obj | exact Ao | exact Ak rfl);exact rfl))),(by repeat (first | exact AppR.nil | (apply AppR.cons;(first | exact OwRen.dead | exact Aj | exact OwRen.obj | exact Ao | exact Ak rfl);exact rfl))),?_⟩
       try simp only [Be,Bo]
       refine Wa<|Y0 ?_;apply Aw
       refine Bk (RetsA.one rfl) rfl ?_ rfl
       exact ⟨g2,c2,mX n1 d n2,JK _ _,hc3,by omega,hc4,rfl,rfl⟩
theorem Con.le {P : Program} {f:FuncId} {args:List AV} {hp:List Ow} {lost:List Nat} {Q Q':AV→List Ow→Prop} (h:Con P f args hp lost Q) (hQ:∀ r hp',Q r hp'→∃ (x R:D),r = .d x∧D.le x R∧Q' (.d R) hp'):Con P f args hp lost Q':=by
 refine ⟨h.1,fun s ρ vs h1 h2 h3 h4 h5=>(h.2 s ρ vs h1 h2 h3 h4 h5).mono fun e w' ⟨v,he,s',ρ',r,hp',hq,hw,hr,ha⟩=>?_⟩
 obtain ⟨x,R,rfl,hle,hq'⟩:=hQ r hp' hq
 exact ⟨v,he,s',ρ',.d R,hp',hq',hw,hle _ _ hr,ha⟩
theorem Oc {a b c:Nat→Int} (h1:lx a b≤0) (h2:lx b c≤0):lx a c≤0:=by
 have e1:=Es a b;have e2:=Es b c;have e3:=Es a c
 have h3:0≤lx c b:=by omega
 have h4:0≤lx b a:=by omega
 have:=(Ht h3 h4).1
 have:0≤lx c a:=this
 omega
theorem Kj : ∀ (l R:Af),(Eo R l).length≤R.length+l.length
 | [],R=>by simp [Eo]
 | m :: l,R=>by
  rw [Eo]
  split
  ·have:=Kj l R
   simp only [List.length_cons]
   omega
  ·have:=Kj l (R ++ [m])
   simp only [List.length_cons,List.length_append,List.length_nil] at this ⊢
   omega
theorem SameM.len {l l':Af} (h:SameM l l'):l.length = l'.length:=h.length
theorem MH {l : Af} (hn:∀ a∈l,∀ j,j<8→0≤a j):IsMin l (He l)∧(He l).length≤l.length:=by
 have hs:(l.mergeSort fun a b=>decide (lx a b≤0)).Pairwise fun a b=>lx a b≤0:=by
  have:=List.pairwise_mergeSort (le:=fun a b=>decide (lx a b≤0)) (fun a b c h1 h2=>by
   simp only [decide_eq_true_eq] at h1 h2 ⊢
   exact Oc h1 h2) (fun a b=>by
   simp only [Bool.or_eq_true,decide_eq_true_eq]
   have:=Es a b
   omega) l
  exact this.imp fun h=>by simpa using h
 have h:=Ol (l:=l) (s:=l.mergeSort fun a b=>decide (lx a b≤0)) (fun x=>List.mem_mergeSort) hn hs
 refine ⟨Ju h,?_⟩
 rw [(Ju h).same h |>.len,List.length_reverse]
 have:=Kj (l.mergeSort fun a b=>decide (lx a b≤0)) []
 rw [List.length_mergeSort] at this
 simpa using this
def Zw (l : Af):Prop:=l.Pairwise fun a b=>¬ Dv a b∧¬ Dv b a
theorem IsMin.noDv {l R:Af} (h:IsMin l R):Zw R:=by
 have ha:=h.anti
 refine List.Pairwise.imp_of_mem (fun {a b} h1 h2 h3=>⟨fun hd=>?_,fun hd=>?_⟩) h.1
 ·have:=Fp.2 (ha a h1 b h2 hd)
  omega
 ·have:=Fp.2 (ha b h2 a h1 hd)
  have:=Es a b
  omega
theorem In8.min {l : Af} {lo hi:Int} (h:∀ a∈l,In8 a lo hi) (hn:∀ a∈l,∀ j,j<8→0≤a j):∀ a∈He l,In8 a lo hi:=fun a ha=>by
 obtain ⟨⟨b,hb,e⟩,_⟩:=((MH hn).1.2 a).1 ⟨a,ha,Eqv.refl a⟩
 exact fun j hj=>e j hj ▸ h b hb j hj
theorem KJ {a : Nat→Int} {hi:Int} (h:In8 a 0 hi):SupN 8 a:=fun j hj=>⟨(h j hj).1,fun h'=>absurd hj (by omega)⟩
theorem A01 {y a:Nat→Int} {hi:Int} (h:In8 y 0 hi) (ha:In8 a 0 hi):In8 (qM y a) 0 hi:=fun j hj=>by
 have h1:=h j hj
 have h2:=ha j hj
 unfold qM
 omega
theorem RF {l : Af} {Dg:Nat} (h:∀ a∈l,BN 8 0 a≤Dg) (hn:∀ a∈l,∀ j,j<8→0≤a j):∀ a∈He l,BN 8 0 a≤Dg:=fun a ha=>by
 obtain ⟨⟨b,hb,e⟩,_⟩:=((MH hn).1.2 a).1 ⟨a,ha,Eqv.refl a⟩
 exact Nat.le_trans (KB fun j _ hj=>Int.le_of_eq (e j (by omega)).symm) (h b hb)
theorem YS {y a:Nat→Int} {Dg:Nat} (h:BN 8 0 y≤Dg) (hy:In8 y 0 64) (ha:In8 a 0 64):BN 8 0 (qM y a)≤Dg :=
 Nat.le_trans (KB fun j _ hj=>by
  have h1:=hy j (by omega)
  have h2:=ha j (by omega)
  unfold qM
  omega) h
theorem ME (Dg : Nat) (hD:Dg≤512):∀ (k:Nat) (l:Af),l.length≤k→k≤12→(∀ y∈l,In8 y 0 64)→(∀ y∈l,BN 8 0 y≤Dg)→Zw l→∃ n f,OfC l n f∧NumL l n f∧n≤1+Dg*k∧(∀ i,-(2 ^ k:Int)≤f i∧f i≤2 ^ k)∧(l = []∨n = 0∨OfW l n f)
 | k,[],_,_,_,_,_=>⟨1,_,YH,NumL.nil,Nat.le_add_right 1 _,fun i=>by
  have:(1:Int)≤2 ^ k:=Int.pow_pos (by decide)
  show -(2 ^ k:Int)≤(if i = 0 then (1:Int) else 0)∧(if i = 0 then (1:Int) else 0)≤2 ^ k
  split <;> omega,.inl rfl⟩
 | 0,_ :: _,h,_,_,_,_=>by simp at h
 | k+1,a :: l,hl,hk,hi,hg,hd=>by
  have hl':l.length≤k:=by simpa using hl
  have hp:(1:Int)≤2 ^ k:=Int.pow_pos (by decide)
  have hp1:(2:Int) ^ (k+1) = 2 ^ k+2 ^ k:=by rw [Int.pow_succ];omega
  have hDk:Dg*(k+1) = Dg*k+Dg:=Nat.mul_succ Dg k
  have hDk2:Dg*k≤512*11:=Nat.mul_le_mul hD (by omega)
  have hia:=hi a List.mem_cons_self
  have hga:=hg a List.mem_cons_self
  have hil:∀ y∈l,In8 y 0 64:=fun y hy=>hi y (List.mem_cons_of_mem _ hy)
  have hgl:∀ y∈l,BN 8 0 y≤Dg:=fun y hy=>hg y (List.mem_cons_of_mem _ hy)
  cases hz:Gl a (fun _=>0) with
  | true =>
   refine ⟨0,fun _=>0,?_,NumL.one List.mem_cons_self (DH.1 hz),by omega,fun i=>by show -(2 ^ (k+1):Int)≤0∧(0:Int)≤2 ^ (k+1);omega,.inr (.inl rfl)⟩
   exact (YG a l hz (by omega)).le fun r hp' ⟨h1,h2⟩=>⟨_,nD 0 fun _=>0,h1,EI,rfl,h2⟩
  | false =>
   have hdl:Zw l:=(List.pairwise_cons.1 hd).2
   obtain ⟨n1,f1,c1,m1,e1,g1,_⟩:=ME Dg hD k l hl' (by omega) hil hgl hdl
   have hqn:∀ x∈l.map (fun y=>qM y a),In8 x 0 64:=fun x hx=>by
    obtain ⟨y,hy,rfl⟩:=List.mem_map.1 hx
    exact A01 (hil y hy) hia
   have hqg:∀ x∈l.map (fun y=>qM y a),BN 8 0 x≤Dg:=fun x hx=>by
    obtain ⟨y,hy,rfl⟩:=List.mem_map.1 hx
    exact YS (hgl y hy) (hil y hy) hia
   have hqn0:∀ x∈l.map (fun y=>qM y a),∀ j,j<8→0≤x j:=fun x hx j hj=>(hqn x hx j hj).1
   obtain ⟨hmin,hml⟩:=MH hqn0
   rw [List.length_map] at hml
   obtain ⟨n2,f2,c2,m2,e2,g2,_⟩:=ME Dg hD k (He (l.map fun y=>qM y a)) (by omega) (by omega) (In8.min hqn hqn0) (RF hqg hqn0) hmin.noDv
   have h0:0<n1:=by
    rcases Nat.eq_zero_or_pos n1 with h | h
    ·subst h
     obtain ⟨b,hb,hb0⟩:=m1.whole fun y hy=>KJ (hil y hy)
     exact absurd (fun j hj=>by rw [hb0 j hj];exact (hia j hj).1) ((List.pairwise_cons.1 hd).1 b hb).2
    ·exact h
   have hpk:(2:Int) ^ k≤2048:=by
    have:k≤11:=by omega
    have h2:2 ^ k≤2 ^ 11:=Nat.pow_le_pow_right (by decide) this
    exact_mod_cast h2
   have hcc:=Up a l n1 n2 f1 f2 hz (by omega) hia hil c1 c2 h0 (by omega) (by omega) (fun i=>by have:=g1 i;omega) (fun i=>by have:=g2 i;omega) m1.far m2.far
   refine ⟨_,_,hcc.ofC,m1.cons m2 hmin (fun y hy=>KJ (hil y hy)) (KJ hia) _ ?_ ?_,?_,fun i=>?_,.inr (.inr hcc)⟩
   ·unfold mX
    split <;> omega
   ·unfold mX
    split <;> omega
   ·refine Nat.le_trans (JK _ _) ?_
    unfold mX
    split <;> omega
   ·have := Ss g1 g2 (by omega) (BN 8 0 a) i
    rw [hp1]
    exact this
theorem One.fn {hp : List Ow} {f:FuncId} {caps:List Nat}:One hp (.fn f caps):=fun _ _ _ v _ hv=>by
 obtain ⟨_,rfl⟩:=hv
 rfl
theorem Us (l R:Af) (n:Nat) (f:Nat→Int) (cm:Abs Tryz.prog 95 [BF l] (BF R)) (c:OfC R n f):Abs Tryz.prog 47 [BF l] (nD n f):=by
 refine Ab Tryz.func47 fun s0=>?_
 rw [Tryz.ntmps47]
 refine Y1<|Wa<|Y0<|Y1 ?_;refine KV Gp rfl rfl rfl rfl rfl rfl ?_;refine Y0<|Y1 ?_;refine Wq (Ft [0] rfl) ?_;refine Ix (ao rfl) (ao rfl) rfl Gp One.fn rfl rfl ?_;refine Y0<|Aa ?_
 refine Np ⟨[(2,.d (nD n f))],[]⟩ ?_ ?_
 ·refine AWp.any (by kernel_rfl) ?_
  refine EJ 1 rfl rfl rfl (by kernel_rfl) (by kernel_rfl) (by kernel_rfl) rfl (PureQ.move rfl (ao rfl)) ?_
  refine Hd 0 2 [2,3,4] [0,3,4] (by kernel_rfl) (by kernel_rfl) (by kernel_rfl) (by kernel_rfl) (by kernel_rfl) rfl rfl ?_ ?_
  ·refine Wq (Cn (ao rfl) rfl Gp rfl rfl) ?_;refine Wq (Am (cm)) ?_
   refine Bi [0] [0] (c) (by first | exact Or.inl rfl | exact Or.inr ⟨by decide,rfl,by repeat (first | exact AvoidR.nil | refine AJ rfl ?_ | refine AvoidR.dead ?_ | refine AP ?_ | refine AvoidR.obj ?_ | refine AH ?_ | refine AI rfl ?_ | refine AvoidR.pin rfl ?_)⟩) rfl rfl (by first | exact .inl ⟨rfl,rfl⟩ | exact .inr ⟨rfl,rfl⟩) (by repeat (first | exact ArgsC.nil | refine ArgsC.d rfl (D.le.refl _) ?_ | refine AZ rfl rfl ?_)) (by decide) (by repeat (first | exact SelR.nil | refine SelR.var rfl ?_ | refine SelR.obj rfl ?_ | refine Bh rfl ?_ | refine Ba rfl rfl rfl ?_)) (by repeat (first | exact trivial | refine ⟨⟨_,_,rfl⟩,?_⟩)) rfl ?_
   rintro _ _ ⟨rfl,rfl⟩
   refine ⟨_,_,_,(by first | exact AVRen.d | exact AVRen.own rfl | exact AVRen.ptr rfl | exact AVRen.fn rfl),(by repeat (first | exact SetR.nil | (apply SetR.cons;(first | exact OwRen.dead | exact Aj | exact OwRen.obj | exact Ao | exact Ak rfl);exact rfl))),(by repeat (first | exact AppR.nil | (apply AppR.cons;(first | exact OwRen.dead | exact Aj | exact OwRen.obj | exact Ao | exact Ak rfl);exact rfl))),?_⟩
   try simp only [Be,Bo]
   refine Wa ?_;apply AWl.nil;apply OnlyN.mk';apply OnlyN.mk'
   exact Ag (by exact Yd<|FrLe.nil) (by exact HpLe.nil)
  ·refine Wq (Am (cm)) ?_;refine Wq (Cn (ao rfl) rfl Gp rfl rfl) ?_
   refine Bi [0] [0] (c) (by first | exact Or.inl rfl | exact Or.inr ⟨by decide,rfl,by repeat (first | exact AvoidR.nil | refine AJ rfl ?_ | refine AvoidR.dead ?_ | refine AP ?_ | refine AvoidR.obj ?_ | refine AH ?_ | refine AI rfl ?_ | refine AvoidR.pin rfl ?_)⟩) rfl rfl (by first | exact .inl ⟨rfl,rfl⟩ | exact .inr ⟨rfl,rfl⟩) (by repeat (first | exact ArgsC.nil | refine ArgsC.d rfl (D.le.refl _) ?_ | refine AZ rfl rfl ?_)) (by decide) (by repeat (first | exact SelR.nil | refine SelR.var rfl ?_ | refine SelR.obj rfl ?_ | refine Bh rfl ?_ | refine Ba rfl rfl rfl ?_)) (by repeat (first | exact trivial | refine ⟨⟨_,_,rfl⟩,?_⟩)) rfl ?_
   rintro _ _ ⟨rfl,rfl⟩
   refine ⟨_,_,_,(by first | exact AVRen.d | exact AVRen.own rfl | exact AVRen.ptr rfl | exact AVRen.fn rfl),(by repeat (first | exact SetR.nil | (apply SetR.cons;(first | exact OwRen.dead | exact Aj | exact OwRen.obj | exact Ao | exact Ak rfl);exact rfl))),(by repeat (first | exact AppR.nil | (apply AppR.cons;(first | exact OwRen.dead | exact Aj | exact OwRen.obj | exact Ao | exact Ak rfl);exact rfl))),?_⟩
   try simp only [Be,Bo]
   refine Wa ?_;apply AWl.nil;apply OnlyN.mk';apply OnlyN.mk'
   exact Ag (by exact Yd<|FrLe.nil) (by exact HpLe.nil)
 ·apply Yn;apply Aw
  exact Yf
theorem NumL.of_min {l R:Af} {n:Nat} {f:Nat→Int} (h:NumL R n f) (hR:IsMin l R) (hl:∀ a∈l,∀ j,j<8→0≤a j):NumL l n f :=
 ⟨h.num.ideal (fun x _=>(hR.inB hl x).symm) fun n hs=>hR.sup hs,h.far,h.last⟩
abbrev Zv (l : Af) (n:Nat) (f:Nat→Int):Prop:=Con Tryz.prog 47 [.d (BF l)] [] [] (fun r hp'=>∃ g c N,n≤N∧N≤c∧N≤100000∧c≤9223372036854775807∧r = .d (sX g n c)∧hp' = [.dead,.dead,.dead,.dead,.dead,.dead,.dead,.obj (BH [⟨g,3,nC f N⟩] [c*1])])
theorem Ur (l R:Af) (n:Nat) (f:Nat→Int) (cm:Abs Tryz.prog 95 [BF l] (BF R)) (c:OfW R n f):Zv l n f:=by
 refine Fg Tryz.func47 rfl (As Tryz.func47 (by kernel_rfl) (by kernel_rfl)) rfl fun s0=>?_
 rw [Tryz.ntmps47]
 refine Y1<|Wa<|Y0<|Y1 ?_;refine KV Gp rfl rfl rfl rfl rfl rfl ?_;refine Y0<|Y1 ?_;refine Wq (Ft [1] rfl) ?_;refine Ix (ao rfl) (ao rfl) rfl Gp One.fn rfl rfl ?_;refine Y0<|Aa ?_
 refine VX (fun σ'=>∃ g c N,n≤N∧N≤c∧N≤100000∧c≤9223372036854775807∧σ' = ⟨[(2,.d (sX g n c))],[.pin [],.dead,.dead,.dead,.dead,.dead,.dead,.obj (BH [⟨g,3,nC f N⟩] [c*1])]⟩) ?_ ?_
 ·refine AWp.any (by kernel_rfl) ?_
  refine EJ 1 rfl rfl rfl (by kernel_rfl) (by kernel_rfl) (by kernel_rfl) rfl (PureQ.move rfl (ao rfl)) ?_
  refine Hd 0 2 [2,3,4] [0,3,4] (by kernel_rfl) (by kernel_rfl) (by kernel_rfl) (by kernel_rfl) (by kernel_rfl) rfl rfl ?_ ?_
  ·refine Wq (Cn (ao rfl) rfl Gp rfl rfl) ?_;refine Wq (Am (cm)) ?_
   refine Bi [1] [0] (c) (by first | exact Or.inl rfl | exact Or.inr ⟨by decide,rfl,by repeat (first | exact AvoidR.nil | refine AJ rfl ?_ | refine AvoidR.dead ?_ | refine AP ?_ | refine AvoidR.obj ?_ | refine AH ?_ | refine AI rfl ?_ | refine AvoidR.pin rfl ?_)⟩) rfl rfl (by first | exact .inl ⟨rfl,rfl⟩ | exact .inr ⟨rfl,rfl⟩) (by repeat (first | exact ArgsC.nil | refine ArgsC.d rfl (D.le.refl _) ?_ | refine AZ rfl rfl ?_)) (by decide) (by repeat (first | exact SelR.nil | refine SelR.var rfl ?_ | refine SelR.obj rfl ?_ | refine Bh rfl ?_ | refine Ba rfl rfl rfl ?_)) (by repeat (first | exact trivial | refine ⟨⟨_,_,rfl⟩,?_⟩)) rfl ?_
   rintro _ _ ⟨g,c0,N,hn1,hn2,hn4,hn3,rfl,rfl⟩
   refine ⟨_,_,_,(by first | exact AVRen.d | exact AVRen.own rfl | exact AVRen.ptr rfl | exact AVRen.fn rfl),(by repeat (first | exact SetR.nil | (apply SetR.cons;(first | exact OwRen.dead | exact Aj | exact OwRen.obj | exact Ao | exact Ak rfl);exact rfl))),(by repeat (first | exact AppR.nil | (apply AppR.cons;(first | exact OwRen.dead | exact Aj | exact OwRen.obj | exact Ao | exact Ak rfl);exact rfl))),?_⟩
   try simp only [Be,Bo]
   refine Wa ?_;apply AWl.nil;apply OnlyN.mk';apply OnlyN.mk'
   refine ⟨_,⟨g,c0,N,hn1,hn2,hn4,hn3,rfl⟩,?_⟩
   exact Ag (by exact Yd<|FrLe.nil) (by exact HpLe.cons (Bb rfl)<|HpLe.cons (OwLe.dead)<|HpLe.cons (OwLe.dead)<|HpLe.cons (OwLe.dead)<|HpLe.cons (OwLe.dead)<|HpLe.cons (OwLe.dead)<|HpLe.cons (OwLe.dead)<|HpLe.cons (OwLe.obj rfl)<|HpLe.nil)
  ·refine Wq (Am (cm)) ?_;refine Wq (Cn (ao rfl) rfl Gp rfl rfl) ?_
   refine Bi [1] [0] (c) (by first | exact Or.inl rfl | exact Or.inr ⟨by decide,rfl,by repeat (first | exact AvoidR.nil | refine AJ rfl ?_ | refine AvoidR.dead ?_ | refine AP ?_ | refine AvoidR.obj ?_ | refine AH ?_ | refine AI rfl ?_ | refine AvoidR.pin rfl ?_)⟩) rfl rfl (by first | exact .inl ⟨rfl,rfl⟩ | exact .inr ⟨rfl,rfl⟩) (by repeat (first | exact ArgsC.nil | refine ArgsC.d rfl (D.le.refl _) ?_ | refine AZ rfl rfl ?_)) (by decide) (by repeat (first | exact SelR.nil | refine SelR.var rfl ?_ | refine SelR.obj rfl ?_ | refine Bh rfl ?_ | refine Ba rfl rfl rfl ?_)) (by repeat (first | exact trivial | refine ⟨⟨_,_,rfl⟩,?_⟩)) rfl ?_
   rintro _ _ ⟨g,c0,N,hn1,hn2,hn4,hn3,rfl,rfl⟩
   refine ⟨_,_,_,(by first | exact AVRen.d | exact AVRen.own rfl | exact AVRen.ptr rfl | exact AVRen.fn rfl),(by repeat (first | exact SetR.nil | (apply SetR.cons;(first | exact OwRen.dead | exact Aj | exact OwRen.obj | exact Ao | exact Ak rfl);exact rfl))),(by repeat (first | exact AppR.nil | (apply AppR.cons;(first | exact OwRen.dead | exact Aj | exact OwRen.obj | exact Ao | exact Ak rfl);exact rfl))),?_⟩
   try simp only [Be,Bo]
   refine Wa ?_;apply AWl.nil;apply OnlyN.mk';apply OnlyN.mk'
   refine ⟨_,⟨g,c0,N,hn1,hn2,hn4,hn3,rfl⟩,?_⟩
   exact Ag (by exact Yd<|FrLe.nil) (by exact HpLe.cons (Bb rfl)<|HpLe.cons (OwLe.dead)<|HpLe.cons (OwLe.dead)<|HpLe.cons (OwLe.dead)<|HpLe.cons (OwLe.dead)<|HpLe.cons (OwLe.dead)<|HpLe.cons (OwLe.dead)<|HpLe.cons (OwLe.obj rfl)<|HpLe.nil)
 ·rintro _ ⟨g,c0,N,hn1,hn2,hn4,hn3,rfl⟩
  apply Yn;apply Aw
  refine Bk (RetsA.one rfl) rfl ?_ rfl
  exact ⟨g,c0,N,hn1,hn2,hn4,hn3,rfl,rfl⟩
theorem Lg (Dg k:Nat) (hD:Dg≤512) (hk:k≤12) (l:Af) (hl:l.length≤k) (hi:∀ y∈l,In8 y 0 64) (hg:∀ y∈l,BN 8 0 y≤Dg):∃ n f,Abs Tryz.prog 47 [BF l] (nD n f)∧NumL l n f∧n≤1+Dg*k∧(∀ i,-(2 ^ k:Int)≤f i∧f i≤2 ^ k)∧(l = []∨n = 0∨Zv l n f):=by
 have hnn:∀ y∈l,∀ j,j<8→0≤y j:=fun y hy j hj=>(hi y hy j hj).1
 obtain ⟨hm,hml⟩:=MH hnn
 obtain ⟨n,f,c,h1,h2,h3,h4⟩:=ME Dg hD k (He l) (by omega) hk (In8.min hi hnn) (RF hg hnn) hm.noDv
 refine ⟨n,f,Us l (He l) n f (Nk l (by omega) hnn) c,h1.of_min hm hnn,by omega,h3,?_⟩
 rcases h4 with h4 | h4 | h4
 ·refine .inl ?_
  cases l with
  | nil=>rfl
  | cons a l =>
   obtain ⟨y,hy,_⟩:=GP hnn _ a List.mem_cons_self (Nat.le_refl _)
   obtain ⟨b,hb,_⟩:=(hm.2 y).2 hy
   rw [h4] at hb
   cases hb
 ·exact .inr (.inl h4)
 ·exact .inr (.inr (Ur l (He l) n f (Nk l (by omega) hnn) h4))
section
variable {fr : List (Nat × AV)} {hp hp':List Ow}
theorem KX {T : TypeId} {ds:List D} (id t:Nat) (hh:hp[id]? = some (.var T (ds.map .d))) (hx:Cs fr t = some (.ptr id 0)) (hs:CZ hp id .dead = some hp'):AS.le ⟨fr,hp⟩ ⟨(t,.d (Hf T ds)) :: fr,hp'⟩:=by
 rw [Cp hs]
 intro s0 n a w ⟨s,ρ,hw,hst⟩
 obtain ⟨g,cs,hρ,hbase,hheap,hsz,hT,hns,hcells⟩:=hst.hp id _ hh
 let s2:GS:=⟨fun b k=>s.S b k∨b = g,s.tag,s.w⟩
 have hc2:GS.Chg s s2:=⟨Nat.le_refl _,fun _ _ hk=>.inl hk,fun b cs T fz hb=>⟨cs,fz,hb,fun _ _=>rfl⟩⟩
 have hlt:g<s.w.heap.size:=At hheap
 have hok2:s2.Ok:=⟨fun b k hk=>hk.elim (hst.ok.lt b k) fun h=>h ▸ hlt,fun b k hty=>.inl (hst.ok.safe b k hty)⟩
 have hblk:OwB s (ρ id) (.var T (ds.map .d)) g:=by show DA (ρ id) = some g;rw [hρ];rfl
 have hle2:GS.LeX s0.mine s0.g s2:=⟨hst.le.os,hst.le.tape,hst.le.output,hst.le.block,hst.le.chg.trans hc2,fun b k hb hm hk=>hk.elim (hst.le.old b k hb hm) fun hk=>((hst.own id _ b hh (hk ▸ hblk)).elim hm fun h=>absurd hb (by omega)).elim,hst.le.tag,fun _=>hok2⟩
 have hst':=hst.upd (s':=s2) (o':=.dead) (ρ':=ρ) (f:=fun x=>x) hle2 hok2 hc2 hh
  (fun b _ hnb=>⟨rfl,fun k=>⟨fun hk=>hk.elim (fun h=>h) fun h=>absurd (h ▸ hblk) hnb,fun hk=>.inl hk⟩⟩) (fun _ _=>rfl) trivial (fun b hb=>hb.elim) fun av v h=>h.chg hc2
 rw [DG,CN] at hst'
 have hst':StI s0 n ⟨fr,hp.set id .dead⟩ a s2 ρ:=hst'
 refine ⟨s2,ρ,hw,⟨hst'.le,hst'.ok,fun u av hu=>?_,hst'.sz,hst'.df,hst'.hp,hst'.sep,hst'.own⟩⟩
 rw [CX] at hu
 split at hu
 ·rename_i e
  cases hu
  subst e
  obtain ⟨_,b,e1,e2⟩:=hst.fr t _ hx
  rw [hρ] at e1
  cases e1
  refine ⟨g,0,e2,cs,(0,0),hheap,fun k hk=>?_⟩
  have hc:=hcells k (.d (By ds k)) (by simp [By,hk])
  obtain ⟨u,g1,g2,g3⟩:=hc
  rw [Nat.zero_add]
  exact ⟨.inr rfl,u,g1,g2,(By ds k).st g3 hc2⟩
 ·exact hst'.fr u av hu
end
section
variable {P : Program} {hp:List Ow} {arg:Operand→AV} {dd:Option Tmp} {ty:TypeId} {ps:String} {af:Array Edge} {gd:Option (Nat × Bool)}
theorem Vy {x : Operand} {t:TypeId} {e n b b' T len:Nat} {d:TypeDesc} {z z':Value} {ds:List D} (hx:arg x = .d (Hf T ds)) (ht:Tab P t (.array len e) n b z) (he:Tab P e d 1 b' z') (hl:ds.length = len) (hm:len≤1000):Quiet P hp ⟨dd,.slice t x none none none,ty,ps,af,gd⟩ arg (.d (slD T 1 (ds.map fun y=>[y]))):=by
 subst hl
 refine ⟨fun base s ρ ev hok hbs hhp h=>?_⟩
 have h1:=h x (by simp [Op.operands])
 rw [hx] at h1
 obtain ⟨g,p,e1,cs,fz,h2,h3⟩:=h1
 have e1:ev x = .pointer (some ⟨g,p,none⟩):=e1
 refine Bl (v:=.slice (some ⟨g,p,none⟩) ds.length ds.length) ?_ ⟨GS.Le.refl s,?_⟩
 ·simp [execOp,Instr.sliceAt,e1,run_underlying ht.und,Instr.sureAddr,Instr.sliceBounds,he.run_size,Addr.add_lit]
 ·refine ⟨some ⟨g, p, none⟩, ds.length, by rw [List.length_map], by rw [List.length_map]; exact Nat.le_refl _, by omega, fun _ => ⟨g, p, rfl, fun k hk => ?_⟩⟩
  rw [List.length_map] at hk
  have e2:(ds.map fun y=>[y]).getD k [] = [By ds k]:=by simp [By,hk]
  rw [e2]
  refine ⟨rfl,cs,fz,h2,fun j hj=>?_⟩
  have hj:j<1:=hj
  obtain rfl:j = 0:=by omega
  have:=h3 k hk
  rw [Nat.mul_one,Nat.add_zero]
  exact this
def nT (T n:Nat) (f:Nat→Int):D:=slD T 1 ((List.range n).map fun i=>[ex (.int .i64 (f i))])
theorem Nh {x : Operand} {t T:TypeId} {e m b n:Nat} {z:Value} {f:Nat→Int} (hx:Eb hp (arg x) = some (nT T n f)) (ht:Tab P t (.slice e) m b z):Quiet P hp ⟨dd,.call { callee:=.builtin .len,args:=#[x],argTypes:=#[t] },ty,ps,af,gd⟩ arg (.d (ex (.int .i64 (n:Nat)))):=by
 have:=Is (dd:=dd) (ty:=ty) (ps:=ps) (af:=af) (gd:=gd) (f:=fun i=>[ex (.int .i64 (f i))]) (l:=List.range n) hx ht
 rwa [List.length_range] at this
theorem VG {x y:Operand} {t T:TypeId} {e n b n' b' k m:Nat} {d:TypeDesc} {z z':Value} {f:Nat→Int} {κ:IntKind} (hx:Eb hp (arg x) = some (nT T m f)) (hy:arg y = .d (ex (.int κ (k:Nat)))) (ht:Tab P t (.slice e) n b z) (he:Tab P e d n' b' z') (hsz:n' = 1) (hk:k<m):Quiet P hp ⟨dd,.indexAddr t x y,ty,ps,af,gd⟩ arg (.d (Hf T [ex (.int .i64 (f k))])):=by
 have:=Ec (dd:=dd) (ty:=ty) (ps:=ps) (af:=af) (gd:=gd) (k:=k) (f:=fun i=>[ex (.int .i64 (f i))]) (l:=List.range m) hx hy ht he hsz (by rw [List.length_range];exact hk)
 have e:(List.range m).getD k default = k:=by simp [List.getD_eq_getElem?_getD,hk]
 rwa [e] at this
end
def WI (a : Nat→Int):Nat→Int
 | 0=>a 0
 | k+1=>max (WI a k) (a (k+1))
theorem Uv (a : Nat→Int):∀ k,∃ i,i≤k∧WI a k = a i∧∀ j,j≤k→a j≤a i
  | 0 => ⟨0, by omega, rfl, fun j hj => by obtain rfl : j = 0 := by omega
                                           omega⟩
  | k+1=>by
    obtain ⟨i,h1,h2,h3⟩:=Uv a k
    rcases Int.le_total (WI a k) (a (k+1)) with h | h
    · refine ⟨k + 1, by omega, by rw [WI]; omega, fun j hj => ?_⟩
      rcases Nat.lt_or_ge j (k+1) with h4 | h4
      · have := h3 j (by omega)
        omega
      · obtain rfl : j = k + 1 := by omega
        omega
    · refine ⟨i, by omega, by rw [WI, ← h2]; omega, fun j hj => ?_⟩
      rcases Nat.lt_or_ge j (k+1) with h4 | h4
      · exact h3 j (by omega)
      · obtain rfl : j = k + 1 := by omega
        omega
theorem RS (T : Nat) (a:Nat→Int):Abs Tryz.prog 89 [nT T 8 a] (ex (.int .i64 (WI a 7))):=by
 refine Ab Tryz.func89 fun s0=>?_
 rw [Tryz.ntmps89]
 refine Y1<|Wa<|Y0<|Aa<|Y1<|Wm ?_;refine Wq (Nh rfl (Ac rfl)) ?_;refine Wq Aq ?_;apply Y0;refine Cf ?_;refine Ys<|Y1<|Wm ?_;refine Wq (VG (k:=0) rfl (ao rfl) (Ac rfl) (Ac rfl) rfl (by omega)) ?_;refine Wq Em ?_;refine Wa<|Y0<|Aa<|Y1<|Wa<|Y0<|AWp.block ?_
 refine AK (fun mz σ=>∃ k,k≤7∧mz = 7 - k∧σ = ⟨[(0,.d (nT T 8 a)),(3,.d (ex (.int .i64 (WI a k)))),(4,.d (ex (.int .i64 ((k+1:Nat):Int))))],[]⟩) ?le ⟨0,by omega,rfl,rfl⟩ ?round
 case le=>exact Ag (by exact Yd<|Yd<|Yd<|FrLe.nil) (by exact HpLe.nil)
 case round =>
  rintro mz _ ⟨k,hk,rfl,rfl⟩
  by_cases hlt:k<7
  ·refine Aa<|Aa<|AWp.region<|Wm<|Wm ?_; refine Wq (Nh rfl (Ac rfl)) ?_; refine Wq Ar ?_; apply AWl.nil; apply Yn; refine Ct ?_; apply Bf; refine Yn<|Aa<|AWp.block<|AWp.region<|Wm<|Wm<|Wm ?_; refine Wq (VG (k := k + 1) rfl (ao rfl) (Ac rfl) (Ac rfl) rfl (by omega)) ?_; refine Wq Em ?_; refine Wq Qh ?_; refine Wa ?_; apply AWl.nil; apply Ah; refine Yn<|AWp.region<|Wm ?_; refine Wq AG ?_; refine Wa ?_; apply AWl.nil
   refine ALoop.next (7 - (k+1)) (by omega) ⟨k+1,by omega,rfl,rfl⟩ ?_
   exact Ag (by exact Yd<|Yd<|Yd<|FrLe.nil) (by exact HpLe.nil)
  ·obtain rfl : k = 7 := by omega
   refine Aa<|Y1<|Wm<|Wm ?_;refine Wq (Nh rfl (Ac rfl)) ?_;refine Wq Aq ?_;apply Y0;refine Cf ?_;apply AF;apply Az;apply AA;apply AB;refine Yn<|Y1<|Wm<|Wa<|Y0 ?_;apply Aw
   exact Yf
section
variable {P : Program} {hp:List Ow} {arg:Operand→AV} {dd:Option Tmp} {ty:TypeId} {ps:String} {af:Array Edge} {gd:Option (Nat × Bool)}
theorem Vz {T U:TypeId} {x y:Operand} {a n:Nat} (hx:arg x = .d (ex (.int .i64 (a:Nat)))) (hy:arg y = .d (ex (.int .i64 (n:Nat)))) (hn:n≤63):Quiet P hp ⟨dd,.binOp .shr T x y U,ty,ps,af,gd⟩ arg (.d (ex (.int .i64 ((a / 2 ^ n:Nat):Int)))):=by
 refine ⟨fun base s ρ ev hok hbs hhp h=>?_⟩
 have h1:=h x (by simp [Op.operands])
 have h2:=h y (by simp [Op.operands])
 rw [hx] at h1;rw [hy] at h2
 have e1:ev x = .int .i64 (a:Nat):=h1
 have e2:ev y = .int .i64 (n:Nat):=h2
 have hm:Min.min n IntKind.i64.bits = n:=Nat.min_eq_left (by show n≤64;omega)
 have hd:Int.fdiv (a:Int) (2 ^ n) = ((a / 2 ^ n:Nat):Int):=by
  rw [Int.fdiv_eq_ediv_of_nonneg _ (Int.le_of_lt (Int.pow_pos (by decide)))]
  norm_cast
 refine Bl (v:=.int .i64 ((a / 2 ^ n:Nat):Int)) ?_ ⟨GS.Le.refl s,rfl⟩
 have hneg:¬ ((n:Int)<0):=by omega
 simp [execOp,e1,e2,eqGuard,binOp,Op.shift,hneg,hm,hd]
end
def okM (n : Nat) (a:Nat→Int):Prop:=In8 a 0 65535∧BS a 8 / 2 ^ n = 0
theorem SV (l : Af) (n z y:Nat) (r:Int) (hn:n≤8) (hl:l.length≤100000) (hz:z≤l.length) (hok:∀ k,k<z→okM n (AC l k)) (hy:y≤l.length) (hend:(z<l.length∧¬ okM n (AC l z)∧r = 1)∨(z = l.length∧((12<l.length∧r = 2)∨(l.length≤12∧(∀ k,k<y→WI (AC l k) 7≤64)∧((y<l.length∧64<WI (AC l y) 7∧r = 2)∨(y = l.length∧r = 0)))))):Abs Tryz.prog 46 [BF l,ex (.int .i64 (n:Nat))] (ex (.int .i64 r)):=by
 refine Ab Tryz.func46 fun s0=>?_
 rw [Tryz.ntmps46]
 refine Y1<|Wa<|Y0<|Aa<|Y1<|Wm ?_;refine Wq Aq ?_;refine Wm ?_;refine Wg Ae ?_;refine Wg Aq ?_;refine Wq AW ?_;apply Y0;refine Cf ?_;refine Ys<|Aa<|Y1<|Wm ?_;refine Wq (CW rfl rfl (Ac rfl)) ?_;refine Wm<|Y0<|AWp.block ?_
 refine AK (fun mz σ=>∃ k,k≤z∧mz = z - k∧σ = ⟨[(0,.d (BF l)),(1,.d (ex (.int .i64 (n:Nat)))),(15,.d (BF l)),(16,.d (ex (.int .i64 (l.length:Nat)))),(17,.d (ex (.int .i64 (k:Nat))))],[]⟩) ?le ⟨0,by omega,rfl,rfl⟩ ?round
 case le=>exact Ag (by exact Yd<|Yd<|Yd<|Yd<|Yd<|FrLe.nil) (by exact HpLe.nil)
 case round =>
  rintro mz _ ⟨k,hk,rfl,rfl⟩
  by_cases hlt:k<z
  ·have hlt' : k < l.length := by omega
   obtain ⟨ho1,ho2⟩:=hok k hlt
   have ho2':BS (AC l k) 8 / 2 ^ n = 0:=ho2
   have hsl:BS (AC l k) 8<256:=DT (AC l k) 8
   apply Y1;refine Wq Ar ?_;refine Y0<|Aa ?_;refine Ct ?_;refine Ys<|Aa<|AWp.block<|Y1 ?_;refine Wq Bd ?_;refine Wq AR ?_;refine Al ?_;refine Sf ?_;refine Y0<|Y1 ?_;refine Wq AL ?_;refine Wq (Am (IX (AC l k) ho1)) ?_;refine Wq Ci ?_;refine Wm ?_;refine Wg AL ?_;refine Wg (Am (FX (AC l k))) ?_;refine Wg Md ?_;refine Wg Ae ?_;refine Wg (Vz (a:=BS (AC l k) 8) (n:=n) (ao rfl) (ao rfl) (by omega)) ?_;refine Wg Aq ?_;refine Wq AW ?_;apply Y0;refine Cf ?_;apply Bf;apply Ah;refine Yn<|AWp.region ?_;refine Wq AG ?_;refine Wm ?_;apply AWl.nil
   refine ALoop.next (z - (k+1)) (by omega) ⟨k+1,by omega,rfl,rfl⟩ ?_
   exact Ag (by exact Yd<|Yd<|Yd<|Yd<|Yd<|FrLe.nil) (by exact HpLe.nil)
  ·obtain rfl : k = z := by omega
   rcases hend with ⟨hlt,hbad,rfl⟩ | ⟨rfl,hend⟩
   ·by_cases hv:In8 (AC l k) 0 65535
    ·have hs:BS (AC l k) 8 / 2 ^ n ≠ 0:=fun h=>hbad ⟨hv,h⟩
     have hs':((BS (AC l k) 8 / 2 ^ n:Nat):Int) ≠ 0:=by omega
     have hsl:BS (AC l k) 8<256:=DT (AC l k) 8
     apply Y1;refine Wq Ar ?_;refine Y0<|Aa ?_;refine Ct ?_;refine Ys<|Aa<|AWp.block<|Y1 ?_;refine Wq Bd ?_;refine Wq AR ?_;refine Al ?_;refine Sf ?_;refine Y0<|Y1 ?_;refine Wq AL ?_;refine Wq (Am (IX (AC l k) hv)) ?_;refine Wq Ci ?_;refine Wm ?_;refine Wg AL ?_;refine Wg (Am (FX (AC l k))) ?_;refine Wg Md ?_;refine Wg Ae ?_;refine Wg (Vz (a:=BS (AC l k) 8) (n:=n) (ao rfl) (ao rfl) (by omega)) ?_;refine Wg Ar ?_;refine Wq AW ?_;apply Y0;refine Ct ?_;refine Y1<|Wa<|Y0 ?_;apply Aw;apply Bv;apply Bc;apply CY;apply Bv;apply Bc
     exact Yf
    ·apply Y1;refine Wq Ar ?_;refine Y0<|Aa ?_;refine Ct ?_;refine Ys<|Aa<|AWp.block<|Y1 ?_;refine Wq Bd ?_;refine Wq AR ?_;refine Al ?_;refine Sf ?_;refine Y0<|Y1 ?_;refine Wq AL ?_;refine Wq (Am (NZ (AC l k) hv)) ?_;refine Wq Ci ?_;refine Wm ?_;refine Ws ?_;refine Ws ?_;refine Ws ?_;refine Ws ?_;refine Ws ?_;refine Ws ?_;refine Wq AU ?_;apply Y0;refine Ct ?_;refine Y1<|Wa<|Y0 ?_;apply Aw;apply Bv;apply Bc;apply CY;apply Bv;apply Bc
     exact Yf
   ·rcases hend with ⟨h12,rfl⟩ | ⟨h12,hy2,hend⟩
    ·apply Y1;refine Wq Aq ?_;refine Y0<|Aa ?_;refine Cf ?_;apply AF;apply Az;apply AA;apply AB;refine Yn<|Aa<|Y1<|Wm ?_;refine Wq (CW rfl rfl (Ac rfl)) ?_;refine Wq Ar ?_;apply Y0;refine Ct ?_;refine Y1<|Wa<|Y0 ?_;apply Aw;apply Bc
     exact Yf
    ·apply Y1;refine Wq Aq ?_;refine Y0<|Aa ?_;refine Cf ?_;apply AF;apply Az;apply AA;apply AB;refine Yn<|Aa<|Y1<|Wm ?_;refine Wq (CW rfl rfl (Ac rfl)) ?_;refine Wq Aq ?_;apply Y0;refine Cf ?_;refine Ys<|Aa<|Y1<|Wm ?_;refine Wq (CW rfl rfl (Ac rfl)) ?_;refine Wm<|Y0<|AWp.block ?_
     refine AK (fun mz σ=>∃ j,j≤y∧mz = y - j∧σ = ⟨[(36,.d (BF l)),(37,.d (ex (.int .i64 (l.length:Nat)))),(38,.d (ex (.int .i64 (j:Nat))))],[]⟩) ?lej ⟨0,by omega,rfl,rfl⟩ ?roundj
     case lej=>exact Ag (by exact Yd<|Yd<|Yd<|FrLe.nil) (by exact HpLe.nil)
     case roundj =>
      rintro mz _ ⟨j,hj,rfl,rfl⟩
      by_cases hltj:j<y
      ·have hlt2 : j < l.length := by omega
       have hm:=hy2 j hltj
       apply Y1;refine Wq Ar ?_;refine Y0<|Aa ?_;refine Ct ?_;refine Ys<|Aa<|AWp.block<|Y1 ?_;refine Wq Bd ?_;refine Wq AR ?_;refine Al ?_;refine Sf ?_;refine Y0<|Y1 ?_
       refine Ds (KX 0 8 rfl rfl rfl) ?_
       refine Wq (Vy (ao rfl) (Ac rfl) (Ac rfl) rfl (by decide)) ?_;refine Wq (Am (RS 55 (AC l j))) ?_;refine Wq Aq ?_;apply Y0;refine Cf ?_;apply Bf;apply Ah;refine Yn<|AWp.region ?_;refine Wq AG ?_;refine Wm ?_;apply AWl.nil
       refine ALoop.next (y - (j+1)) (by omega) ⟨j+1,by omega,rfl,rfl⟩ ?_
       exact Ag (by exact Yd<|Yd<|Yd<|FrLe.nil) (by exact HpLe.nil)
      ·obtain rfl : y = j := by omega
       rcases hend with ⟨hlt,hbig,rfl⟩ | ⟨rfl,rfl⟩
       ·apply Y1;refine Wq Ar ?_;refine Y0<|Aa ?_;refine Ct ?_;refine Ys<|Aa<|AWp.block<|Y1 ?_;refine Wq Bd ?_;refine Wq AR ?_;refine Al ?_;refine Sf ?_;refine Y0<|Y1 ?_
        refine Ds (KX 0 8 rfl rfl rfl) ?_
        refine Wq (Vy (ao rfl) (Ac rfl) (Ac rfl) rfl (by decide)) ?_;refine Wq (Am (RS 55 (AC l y))) ?_;refine Wq Ar ?_;apply Y0;refine Ct ?_;refine Y1<|Wa<|Y0 ?_;apply Aw;apply Bv;apply Bc;apply CY;apply Bv;apply Bc
        exact Yf
       ·apply Y1;refine Wq Aq ?_;refine Y0<|Aa ?_;refine Cf ?_;apply AF;apply Az;apply AA;apply AB;refine Yn<|Y1<|Wa<|Y0 ?_;apply Aw
        exact Yf
end Go.Proofs.YtialdhnijjnpaaaGreat
