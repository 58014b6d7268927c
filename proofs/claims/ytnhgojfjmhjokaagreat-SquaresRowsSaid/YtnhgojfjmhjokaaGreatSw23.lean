/- Part 23 of the proof of squaresRows_holds. No condition. -/
import Derived.Test.YtnhgojfjmhjokaaGreatSw18
import Derived.Test.YtnhgojfjmhjokaaGreatSw19
import Derived.Test.YtnhgojfjmhjokaaGreatSw22
set_option linter.unusedSimpArgs false
set_option linter.unusedVariables false
set_option maxRecDepth 100000
set_option maxHeartbeats 8000000
namespace Go.Proofs.YtnhgojfjmhjokaaGreat
open Go.RowKit Go.Deep Go.ChangeShapes Go.WideShapes
def u8D (T : Nat) (V:List Int):D:=slD T 1 (V.map fun z=>[ex (.int .u8 z)])
def U8s (V : List Int):Prop:=∀ z∈V,0≤z∧z≤255
theorem WR : Opens Tryz.prog 25 fun ds=>∃ T V,Mr8 V∧ds = [VU T V] :=
 (Opens.struct (Rs := [fun ds => ∃ T V, Mr8 V ∧ ds = [VU T V]]) Tryz.underlying25 (FieldsO.cons rfl ((Opens.slice (c := 1) Tryz.underlying23 (by kernel_rfl) (by omega) (Opens.int Tryz.underlying75) fun ds ⟨r, _, h⟩ => by rw [h]; rfl).mono fun ds ⟨T, rows, h1, h2⟩ => by
  obtain ⟨X,h3,h4⟩:=Oi (α:=Int) (p:=fun z=>-128≤z∧z≤127) (f:=fun z=>[ex (.int .i8 z)]) (rows:=rows) fun r hr=>by
   obtain ⟨z,hz,e⟩:=h1 r hr
   exact ⟨z,bounds_i8 hz,e⟩
  exact ⟨T,X,h3,by rw [h2,h4];rfl⟩) (FieldsO.nil (by kernel_rfl)))).mono fun ds ⟨l,h1,h2⟩=>by
  match l,h1 with
  | [d],⟨⟨T,X,hX,hd⟩,_⟩=>exact ⟨T,X,hX,by rw [h2,hd];rfl⟩
theorem Up : Opens Tryz.prog 62 fun ds=>∃ T V,U8s V∧ds = [u8D T V] :=
 (Opens.slice (c := 1) Tryz.underlying62 (by kernel_rfl) (by omega) (Opens.int Tryz.underlying5) fun ds ⟨r, _, h⟩ => by rw [h]; rfl).mono fun ds ⟨T, rows, h1, h2⟩ => by
  obtain ⟨X,h3,h4⟩:=Oi (α:=Int) (p:=fun z=>0≤z∧z≤255) (f:=fun z=>[ex (.int .u8 z)]) (rows:=rows) fun r hr=>by
   obtain ⟨z,hz,e⟩:=h1 r hr
   exact ⟨z,bounds_u8 hz,e⟩
  exact ⟨T,X,h3,by rw [h2,h4];rfl⟩
section
variable {P : Program} {s0:An} {n:Nat} {Q:Exit→AS→Prop} {σ:AS}
theorem VN {c : Code} {id:Nat} {N:AS→Prop} (K:AS→Prop) (h:AWp P s0 n c (ABlock id (AThen K Q)) σ) (hk:∀ σ,K σ→N σ):AWp P s0 n c (ABlock id (AThen N Q)) σ:=⟨fun a w hs=>wp_mono (h.run a w hs) fun e a' w' ⟨σ',⟨h1⟩,h2⟩=>by
 have key:∀ e,AThen K Q e σ'→AThen N Q e σ':=fun e ⟨h⟩=>by
  cases e with
  | normal=>exact ⟨hk σ' h⟩
  | _=>exact ⟨h⟩
 refine ⟨σ',⟨?_⟩,h2⟩
 cases e with
 | exit j =>
  have h1:if j = id then AThen K Q .normal σ' else AThen K Q (.exit j) σ':=h1
  show if j = id then AThen N Q .normal σ' else AThen N Q (.exit j) σ'
  split
  ·rename_i hj;rw [if_pos hj] at h1;exact key _ h1
  ·rename_i hj;rw [if_neg hj] at h1;exact key _ h1
 | _=>exact key _ h1⟩
end
theorem MN {P : Program} {s0:An} {n:Nat} {id:Nat} {e e2:Nat} {L L1 L':List Oper} {Q:Exit→AS→Prop} (hm:P.follows .mixedOrders = true) (hL:AddE e L L1) (hb:LM e L L1 = true) (hL2:AddE e2 L1 L') (hb2:LM e2 L1 L' = true):DrawOk P s0 n id L.toArray L' Q (OnlyN Q):=⟨fun a w h=>by
 have hfz:∀ j,(Array.replicate L.toArray.size false).getD j false = false:=fun j=>by
  rcases Nat.lt_or_ge j L.length with h | h
  ·simp [h]
  ·simp [h]
 have hs:L'.toArray.size = L.toArray.size:=by simp [hL.length,hL2.length]
 rw [hs] at h
 have hp:∀ c a w,¬ HC s0 n (OnlyN Q) (.panic c) a w:=fun c a w ⟨σ,h,_⟩=>by have:=h.how;cases this
 have hl:¬ LetsOut (HC s0 n (OnlyN Q)):=fun ⟨a,w,σ,h,_⟩=>by have:=h.how;cases this
 have h0:=Hl hL2 hb2 hp hl _ _ _ _ (by simp [hL.length]) (fun j o _ hl=>by rw [hfz] at hl;cases hl) h
 have h1:=Hl hL hb hp hl _ _ _ _ (by simp) (fun j o _ hl=>by rw [hfz] at hl;cases hl) h0
 exact wp_mono (wp_region_any hm h1) fun ex a' w' ⟨σ,h,hs⟩=>by
  obtain ⟨rfl,h⟩:=h
  exact ⟨σ,h,hs⟩⟩
def yA (Y : List Int) (k:Nat):Rat:=(((Y.getD k default) % 4:Int):Rat)
def rA (V : List Int) (k j:Nat):Rat:=Lu V (3*k) j
theorem ZT {Y : List Int} (k:Nat):0≤yA Y k:=by
 have h:0≤(Y.getD k default) % 4:=Int.emod_nonneg _ (by omega)
 exact Rat.intCast_nonneg.2 h
theorem KW (Y : List Int) (k:Nat):RSz (yA Y k) 1:=DO (by have:=Int.emod_nonneg (Y.getD k default) (show (4:Int) ≠ 0 by omega);omega) (by have:=Int.emod_lt_of_pos (Y.getD k default) (show (0:Int)<4 by omega);omega)
theorem FQ (V : List Int) (k j:Nat):RSz (rA V k j) 10:=YJ V _ _
theorem Jb (Y V:List Int) (i j:Nat):∀ k,RSz (Bj (yA Y) (rA V) k i j) (22*k+1)
 | 0=>(DO (x:=0) (by omega) (by omega):RSz ((0:Int):Rat) 1)
 | k+1=>by
  have ih:=Jb Y V i j k
  have h:=ih.add ((KW Y k).mul ((FQ V k i).mul (FQ V k j)))
  exact h.mono (by omega)
def DL (a : Nat→Rat) (r:Nat→Nat→Rat) (k i j p q:Nat):Rat:=if p<i∨(p = i∧q<j) then Bj a r (k+1) p q else Bj a r k p q
theorem Rw (a : Nat→Rat) (r:Nat→Nat→Rat) (k:Nat):DL a r k 0 0 = Bj a r k:=by
 funext p q
 rw [DL,if_neg (by omega)]
theorem Rx (a : Nat→Rat) (r:Nat→Nat→Rat) (k i j:Nat):Yx (DL a r k i j) i j (DL a r k i j i j+a k*(r k i*r k j)) = DL a r k i (j+1):=by
 have e:DL a r k i j i j = Bj a r k i j:=by rw [DL,if_neg (by omega)]
 rw [e]
 funext p q
 unfold Yx Dv
 by_cases hp:p = i
 ·subst hp
  rw [if_pos rfl]
  by_cases hq:q = j
  ·subst hq
   rw [if_pos rfl,DL,if_pos (by omega)]
   rfl
  ·rw [if_neg hq]
   unfold DL
   by_cases hc:q<j
   ·rw [if_pos (by omega),if_pos (by omega)]
   ·rw [if_neg (by omega),if_neg (by omega)]
 ·rw [if_neg hp]
  unfold DL
  by_cases hc:p<i
  ·rw [if_pos (by omega),if_pos (by omega)]
  ·rw [if_neg (by omega),if_neg (by omega)]
theorem WC (Y V:List Int) (k i j p q:Nat) (hk:k<3):RSz (DL (yA Y) (rA V) k i j p q) 70:=by
 unfold DL
 split
 ·exact (Jb Y V p q (k+1)).mono (by omega)
 ·exact (Jb Y V p q k).mono (by omega)
theorem HD {m n b0:Nat} {b c:Nat→Nat} {M M':Nat→Nat→Rat} (h:∀ i,i<m→∀ j,j<n→M i j = M' i j):CS m (fun _=>n) b0 b c M = CS m (fun _=>n) b0 b c M':=by
 unfold CS
 congr 1
 exact List.map_congr_left fun i hi=>by rw [EK (h i (List.mem_range.1 hi))]
theorem Uc (a : Nat→Rat) (r:Nat→Nat→Rat) (k i b0:Nat) (b c:Nat→Nat):CS 3 (fun _=>3) b0 b c (DL a r k i 3) = CS 3 (fun _=>3) b0 b c (DL a r k (i+1) 0):=HD fun p hp q hq=>by
 unfold DL
 by_cases h:p<i+1
 ·rw [if_pos (by omega),if_pos (by omega)]
 ·rw [if_neg (by omega),if_neg (by omega)]
theorem Ud (a : Nat→Rat) (r:Nat→Nat→Rat) (k b0:Nat) (b c:Nat→Nat):CS 3 (fun _=>3) b0 b c (DL a r k 3 0) = CS 3 (fun _=>3) b0 b c (Bj a r (k+1)):=HD fun p hp q hq=>by
 rw [DL,if_pos (by omega)]
theorem UF (b0 : Nat) (b c:Nat→Nat) (M:Nat→Nat→Rat):CS 3 (fun _=>3) b0 b c M = CS 3 (fun _=>3) b0 b c (Cy M 3):=HD fun p hp q hq=>(if_pos ⟨hp,hq⟩).symm
theorem Oz {ms : List (Nat→Int)} {i:Nat} (h:i<ms.length):MH ms i∈ms:=by
 rw [MH,List.getD_eq_getElem?_getD,List.getElem?_eq_getElem h]
 exact List.getElem_mem _
theorem WT : ((1:Int):Rat) ≠ 0:=by decide
theorem Jc {ms : List (Nat→Int)} (hm:∀ m∈ms,In8 m 0 1) {r:Nat→Rat} (hr:∀ j,RSz (r j) 10):∀ n,n≤ms.length→PB (Iq ms r n) n (12*n) 1
 | 0,_=>PB.nil
 | n+1,h=>by
  have h1:PB [⟨((1:Int):Rat),MH ms n⟩] 1 1 1:=GC WT (DO (by omega) (by omega)) (hm _ (Oz (by omega)))
  exact ((Jc hm hr n (by omega)).add (HX h1 (hr n))).mono (by omega) (by omega) (by omega)
theorem NZ {ms : List (Nat→Int)} (hl:ms.length = 3) (hm:∀ m∈ms,In8 m 0 1) {a:Nat→Rat} {r:Nat→Nat→Rat} (ha:∀ k,RSz (a k) 1) (hr:∀ k j,RSz (r k j) 10):∀ k,PB (Hn ms a r 3 k) (9*k) (300*k) 2
 | 0=>PB.nil
 | k+1=>by
  have h1:=Jc hm (hr k) 3 (by omega)
  exact ((NZ hl hm ha hr k).add (HX (h1.mul h1 (by omega) (by omega)) (ha k))).mono (by omega) (by omega) (by omega)
theorem Oa {ms : List (Nat→Int)} (hm:∀ m∈ms,sN m 8≤2) (row:Nat→Rat) (d:Rat):∀ n,n≤ms.length→DegN (KB ms row d n) 2
 | 0,_=>DegN.nil
 | n+1,h=>by
  rw [KB]
  split
  ·exact Oa hm row d n (by omega)
  ·refine (Oa hm row d n (by omega)).add fun t ht => ?_
   rw [List.mem_singleton.1 ht]
   exact hm _ (Oz h)
theorem Gw {ms : List (Nat→Int)} {M:Nat→Nat→Rat} {n:Nat} {p:Sq→Prop} (h:∀ k,k<n→AL M k k k ≠ 0→p ⟨AL M k k k,KB ms (AL M k k) (AL M k k k) n⟩):∀ k,k≤n→∀ s∈DA ms M n k,p s
 | 0,_,s,hs=>by cases hs
 | k+1,hk,s,hs=>by
  rw [DA] at hs
  split at hs
  ·exact Gw h k (by omega) s hs
  ·rename_i h0
   rcases List.mem_append.1 hs with hs | hs
   ·exact Gw h k (by omega) s hs
   ·rw [List.mem_singleton.1 hs]
    exact h k (by omega) h0
theorem Uu : ∀ m∈LE,sN m 8≤2:=fun m hm=>by
 simp only [LE,List.mem_cons,List.not_mem_nil,or_false] at hm
 rcases hm with rfl | rfl | rfl | rfl <;> decide
theorem A0g (o k:Nat) (hk:k≤4):∀ m∈oS o k,sN m 8≤2:=fun m hm=>Uu m (RF o k hk m hm)
theorem UE {len b c:Nat→Nat} {M:Nat→Nat→Rat} {b0 g g3 cg:Nat} (h:∀ i,i<3→len i = 4):(CS 3 len b0 b c (Cy M 3)).set 0 ⟨g3,63,Il 3 len b c ++ [sX g 4 cg]⟩ ++ [⟨g,54,Bh (Dv zR 3 ((-1:Int):Rat)) 4⟩] = CS 4 (fun _=>4) g3 (Dv b 3 g) (Dv c 3 cg) (Cy M 3):=by
 have h3:Bh (Dv zR 3 ((-1:Int):Rat)) 4 = Bh (Cy M 3 3) 4:=EK fun j hj=>by
  unfold Dv Cy
  by_cases e:j = 3
  ·rw [if_pos e,if_neg (by omega),if_pos ⟨rfl,e⟩]
  ·rw [if_neg e,if_neg (by omega),if_neg (by omega)]
 have e3:List.range 3 = [0,1,2]:=rfl
 have e4:List.range 4 = [0,1,2,3]:=rfl
 simp only [CS,Il,e3,e4,List.map_cons,List.map_nil,List.set_cons_zero,List.cons_append,List.nil_append,h 0 (by omega),h 1 (by omega),h 2 (by omega),h3]
 rfl
theorem Ub (o : Nat) (a:Nat→Rat) (r:Nat→Nat→Rat) (K:Nat) (ha:∀ k,k<K→0≤a k) (hM:∀ i j,RSz (Bj a r K i j) 70):∃ L:List Sq,L.length≤3∧SqB L 3 28000 5000 1∧(∀ s∈L,DegN s.p 2)∧(∀ s∈L,0≤s.a.num.sign)∧Sim (Fp L) (Hn (oS o 3) a r 3 K)∧Abs Tryz.prog 17 [Jz (oS o 3),Ee 3 3 (Bj a r K)] (Da [Io L,ex (.int .i64 0)]):=by
 have hl:=Gq o 3
 have hm:=Lz o 3 (by omega)
 have hS:∀ k,k≤3→EJ 70 k≤4550:=fun k hk=>Nat.le_trans (GO 70 hk) (by decide)
 have hsz:∀ k,k≤3→∀ i j,RSz (AL (Bj a r K) k i j) 4550:=fun k hk i j=>(LL hM k i j).mono (hS k hk)
 refine ⟨DA (oS o 3) (Bj a r K) 3 3,JS _ _ _ _,Gw (p:=fun s=>PB s.p 3 28000 1∧RSz s.a 5000) (fun k hk h0=>⟨(Rp hm (hsz k (by omega) k) (hsz k (by omega) k k) h0 3 (by omega)).mono (by omega) (by omega) (by omega),(hsz k (by omega) k k).mono (by omega)⟩) 3 (Nat.le_refl 3),Gw (p:=fun s=>DegN s.p 2) (fun k hk _=>Oa (A0g o 3 (by omega)) _ _ 3 (by omega)) 3 (Nat.le_refl 3),Gw (p:=fun s=>0≤s.a.num.sign) (fun k hk h0=>by rw [PA (Oh ha 3 k).1 h0];decide) 3 (Nat.le_refl 3),WA _ r 3 K ha,HF 3 70 1 _ _ (by omega) (by omega) hl hm (by omega) hM (Nat.le_trans (hS 3 (Nat.le_refl 3)) (by decide)) (fun i _ j _=>GF a r K i j) 3 (Nat.le_refl 3) (fun k _=>Oh ha 3 k) _ (.inl ⟨rfl,rfl⟩)⟩
theorem MJ (o : Nat) (a:Nat→Rat) (r:Nat→Nat→Rat) (K:Nat) (ha:∀ k,k<K→0≤a k) (hM:∀ i j,RSz (Bj a r K i j) 70):Abs Tryz.prog 17 [Jz (oS o 4),Ee 4 4 (Cy (Bj a r K) 3)] (Da [Io [],ex (.int .i64 280)]):=by
 have hB:∀ i j,RSz (Cy (Bj a r K) 3 i j) 70:=fun i j=>by
  unfold Cy
  split
  ·exact hM i j
  ·split
   ·exact (DO (by omega) (by omega):RSz ((-1:Int):Rat) 1).mono (by omega)
   ·exact (DO (by omega) (by omega):RSz ((0:Int):Rat) 1).mono (by omega)
 exact HF 4 70 1 _ _ (by omega) (by omega) (Gq o 4) (Lz o 4 (by omega)) (by omega) hB (by decide) (fun i _ j _=>Vk (GF a r K) 3 i j) 3 (by omega) (fun k hk=>Zg hk (Oh ha 3 k)) _ (.inr ⟨by omega,rfl,.inl (XA _ 3)⟩)
def zsR (m : Nat) (c:Nat→Nat):List Nat:=(List.range m).map fun i=>c i*4
theorem VW {m cg:Nat} {c:Nat→Nat}:zsR m c ++ [cg*4] = zsR (m+1) (Dv c m cg):=by
 rw [zsR,zsR,List.range_succ,List.map_append]
 congr 1
 ·exact List.map_congr_left fun i hi=>by rw [Dv,if_neg (by have:=List.mem_range.1 hi;omega)]
 ·simp [Dv]
theorem Wp (T : Nat) (V:List Int) (U:Nat) (Y:List Int) (o:Nat) (hV:Mr8 V) (hY:U8s Y) (ho:o<256):Abs Tryz.prog 5 [BF [VU T V],u8D U Y,ex (.int .u8 (o:Nat))] (ex (.bool true)):=by
 obtain ⟨K,hK⟩:∃ K,K = min 3 Y.length:=⟨_,rfl⟩
 have hl3:=Gq o 3
 refine Ab Tryz.func5 fun s0=>?_
 rw [Tryz.ntmps5]
 apply Y1;refine Bx ?_;refine Wa<|Y0<|Y1 ?_;refine Wq (Ag (Of)) ?_;refine Wa<|Y0<|Ac<|Y1<|Wm ?_;refine Wq Br ?_;apply Y0;refine Cf ?_;refine Ys<|Y1 ?_;refine EA (Ad rfl) (Ad rfl) rfl rfl rfl rfl rfl ?_;refine Wa<|Y0<|Y1<|Wa<|Y0<|Ac<|Y1<|Wa<|Y0<|AWp.block ?_
 refine Ba (fun mz σ=>∃ k,k≤3∧mz = 3 - k∧∃ b c,(∀ i,i<k→3≤c i∧c i≤9223372036854775807)∧σ = ⟨[(1,.d (u8D U Y)),(2,.d (ex (.int .u8 (o:Nat)))),(3,.ptr 0 0),(7,.d (ex (.bool true))),(8,.own 1),(9,.d (ex (.int .i64 3))),(10,.d (ex (.int .i64 (k:Nat))))],[.var 25 ([VU T V].map .d),.obj (JI 63 1 (ET k 3 b c)),.obj (Ce (Ls k 3 b (fun _=>zR)) (zsR k c))]⟩) ?le ⟨0,by omega,rfl,fun _=>0,fun _=>0,fun i hi=>absurd hi (Nat.not_lt_zero i),rfl⟩ ?round
 case le =>
  refine FG (SM 1 rfl rfl) (FG (VS rfl rfl) ?_)
  exact Aq (by exact Yd<|Yd<|Yp<|Yd<|FrLe.cons rfl (AVle.own rfl)<|Yd<|Yd<|FrLe.nil) (by exact Yv<|HpLe.cons (OwLe.obj rfl)<|HpLe.cons (OwLe.obj rfl)<|HpLe.nil)
 case round =>
  rintro mz _ ⟨k,hk,rfl,b,c,hbc,rfl⟩
  by_cases hlt:k<3
  ·have hrl : (ET k 3 b c).length = k := by simp [ET]
   refine Ac<|Y1<|Wm<|Wm ?_;refine Wq Am ?_;apply Y0;refine Ct ?_;refine Ys<|Ac<|AWp.block<|AWp.region<|Wm<|Wm ?_
   refine Fh [] [] (KV 3 (by omega) (by omega)) (.inl rfl) rfl rfl (.inl ⟨rfl,rfl⟩) (by repeat (first | exact ArgsC.nil | refine ArgsC.d rfl (D.le.refl _) ?_ | refine Ep rfl rfl ?_)) (by decide) SelR.nil trivial rfl ?_
   rintro _ _ ⟨g,cg,hc1,hc2,rfl,rfl⟩
   refine ⟨_,_,_,(by first | exact AVRen.d | exact AVRen.own rfl | exact AVRen.ptr rfl | exact Eq rfl),(by repeat (first | exact SetR.nil | (apply SetR.cons;(first | exact OwRen.dead | exact BJ | exact OwRen.obj | exact BU | exact BK rfl);exact rfl))),(by repeat (first | exact AppR.nil | (apply AppR.cons;(first | exact OwRen.dead | exact BJ | exact OwRen.obj | exact BU | exact BK rfl);exact rfl))),?_⟩
   (refine Cz rfl rfl ?_;(refine CE (Ad rfl) (Ad rfl) rfl rfl rfl rfl rfl ?_;(repeat ((first | refine ⟨_,AK (ao rfl),?_⟩ | refine ⟨_,Po rfl,?_⟩);refine ⟨_,rfl,?_⟩));refine ⟨_,rfl,?_⟩));(refine Ps (r2:=[[sX g 3 cg]]) (ao rfl) rfl (Ol rfl) (Nat.zero_lt_succ _) rfl (Ad rfl) (Ad rfl) rfl rfl (by rw [hrl];simp;omega) (by rw [hrl];simp;omega) rfl (by first | ((repeat (first | exact PlainHp.nil | refine PlainHp.var ?_ | refine CX ?_ | refine PlainHp.dead ?_ | refine PlainHp.obj ?_ | refine PlainHp.pin rfl ?_ | refine CH rfl ?_));done) | fail) rfl ?_);refine Wa ?_;apply AWl.nil;apply Ai;refine Yn<|AWp.region<|Wm ?_;refine Wq AR ?_;refine Wa ?_;apply AWl.nil
   refine ALoop.next (3 - (k+1)) (by omega) ⟨k+1,by omega,rfl,Dv b k g,Dv c k cg,fun i hi=>?_,rfl⟩ ?_
   ·unfold Dv
    split
    ·exact ⟨hc1,hc2⟩
    ·exact hbc i (by omega)
   ·refine FG (Ka 2 4 (by decide) (by simp [zsR, Ls]) rfl rfl rfl rfl) ?_
    exact Aq (by exact Yd<|Yd<|Yp<|Yd<|FrLe.cons rfl (AVle.own rfl)<|Yd<|Yd<|FrLe.nil) (by apply Yv;refine HpLe.cons (OwLe.obj (by rw [Rz])) ?_;refine HpLe.cons (OwLe.obj (by rw [Ry (M:=fun _=>zR),VW])) ?_;exact HpLe.nil)
  ·obtain rfl : k = 3 := by omega
   refine Ac<|Y1<|Wm<|Wm ?_;refine Wq Ak ?_;apply Y0;refine Cf ?_;apply AZ;apply AE;apply AM;apply AF;refine Yn<|Y1<|Wm<|Wm ?_;refine Wq (Ag (Nq o 3 ho (by omega))) ?_;refine Wa<|Y0<|Y1 ?_;refine EA (Ad rfl) (Ad rfl) rfl rfl rfl rfl rfl ?_;refine Wa<|Y0<|Ac<|Y1<|Wa<|Y0<|AWp.block ?_
   refine TP 1 rfl (Nat.zero_lt_succ 2) (fun g c=>rfl) (by first | ((repeat (first | exact PlainHp.nil | refine PlainHp.var ?_ | refine CX ?_ | refine PlainHp.dead ?_ | refine PlainHp.obj ?_ | refine PlainHp.pin rfl ?_ | refine CH rfl ?_));done) | fail) (fun g k=>rfl) fun b0 c0 hb0 hb0'=>?_
   replace hb0:3≤c0:=hb0
   refine MC (Ka 1 2 (by decide) rfl rfl rfl rfl rfl) ?_
   refine VN (fun σ=>AS.le σ ⟨[(2,.d (ex (.int .u8 (o:Nat)))),(7,.d (ex (.bool true))),(8,.d (sX b0 3 c0)),(9,.d (ex (.int .i64 3))),(11,.d (Jz (oS o 3))),(12,.d (Bi (Hn (oS o 3) (yA Y) (rA V) 3 K)))],[.dead,.obj (Ce (CS 3 (fun _=>3) b0 b c (Bj (yA Y) (rA V) K)) (Hg 3 c0 c))]⟩) ?loop fun σ hσ=>MC hσ ?_
   case loop =>
    refine Ba (fun mz σ=>∃ k,k≤K∧mz = K - k∧σ = ⟨[(1,.d (u8D U Y)),(2,.d (ex (.int .u8 (o:Nat)))),(3,.ptr 0 0),(7,.d (ex (.bool true))),(8,.d (sX b0 3 c0)),(9,.d (ex (.int .i64 3))),(11,.d (Jz (oS o 3))),(12,.d (Bi (Hn (oS o 3) (yA Y) (rA V) 3 k))),(13,.d (ex (.int .i64 (k:Nat))))],[.var 25 ([VU T V].map .d),.obj (Ce (CS 3 (fun _=>3) b0 b c (Bj (yA Y) (rA V) k)) (Hg 3 c0 c))]⟩) ?le ⟨0,by omega,rfl,rfl⟩ ?round
    case le=>exact Aq (by exact Yd<|Yd<|Yp<|Yd<|Yd<|Yd<|Yd<|FrLe.cons rfl (Ik rfl (Bc rfl))<|Yd<|FrLe.nil) (by exact Yv<|HpLe.cons (OwLe.obj rfl)<|HpLe.nil)
    case round =>
     rintro mz _ ⟨k,hk,rfl,rfl⟩
     by_cases hlt:k<K
     ·have hk3 : k < 3 := by omega
      have hkl:k<Y.length:=by omega
      have hy:=hY (Y.getD k default) (by rw [List.getD_eq_getElem?_getD,List.getElem?_eq_getElem hkl];exact List.getElem_mem _)
      refine Ac<|Y1<|Wm<|Wm ?_;refine Wq AH ?_;refine Wq Am ?_;refine Wm ?_;refine Wg Af ?_;refine Wg Am ?_;refine Wq AP ?_;apply Y0;refine Ct ?_;refine Ys<|Ac<|AWp.block<|Y1 ?_;refine Wq Ar ?_;refine Wm<|Wm ?_;refine Wq A0y ?_;refine Wm ?_
      refine Fh [] [] (YI T V hV (3*k) 3 (by omega) (by omega) (by omega)) (.inl rfl) rfl rfl (.inl ⟨rfl,rfl⟩) (by repeat (first | exact ArgsC.nil | refine ArgsC.d rfl (D.le.refl _) ?_ | refine Ep rfl rfl ?_)) (by decide) SelR.nil trivial rfl ?_
      rintro _ _ ⟨g,cg,hc1,hc2,rfl,rfl⟩
      refine ⟨_,_,_,(by first | exact AVRen.d | exact AVRen.own rfl | exact AVRen.ptr rfl | exact Eq rfl),(by repeat (first | exact SetR.nil | (apply SetR.cons;(first | exact OwRen.dead | exact BJ | exact OwRen.obj | exact BU | exact BK rfl);exact rfl))),(by repeat (first | exact AppR.nil | (apply AppR.cons;(first | exact OwRen.dead | exact BJ | exact OwRen.obj | exact BU | exact BK rfl);exact rfl))),?_⟩
      refine Wa<|Y0<|Y1<|Wm<|Wm ?_;refine Wq (DK (k:=k) rfl (ao rfl) (Ad rfl) (Ad rfl) rfl hkl) ?_;refine Wq BS ?_;refine Wq DC ?_;refine Wq BG ?_;refine Wq (Ag (Bu (Y.getD k default % 4) (by omega) (by omega))) ?_;refine Al ?_;refine Sf ?_;refine Y0<|Y1 ?_;refine EA (Ad rfl) (Ad rfl) rfl rfl rfl rfl rfl ?_;refine Wa<|Y0<|Ac<|Y1<|Wa<|Y0<|AWp.block ?_
      refine Ba (fun mz σ=>∃ i,i≤3∧mz = 3 - i∧σ = ⟨[(1,.d (u8D U Y)),(2,.d (ex (.int .u8 (o:Nat)))),(3,.ptr 0 0),(7,.d (ex (.bool true))),(8,.d (sX b0 3 c0)),(9,.d (ex (.int .i64 3))),(11,.d (Jz (oS o 3))),(12,.d (Bi (Hn (oS o 3) (yA Y) (rA V) 3 k))),(13,.d (ex (.int .i64 (k:Nat)))),(14,.d (sX g 3 cg)),(15,.ptr 6 0),(16,.d (Bi (Iq (oS o 3) (rA V k) i))),(17,.d (ex (.int .i64 (i:Nat))))],[.var 25 ([VU T V].map .d),.obj (Ce (CS 3 (fun _=>3) b0 b c (DL (yA Y) (rA V) k i 0)) (Hg 3 c0 c)),.dead,.dead,.dead,.obj (Bo [⟨g,54,Bh (rA V k) 3⟩]),.var 54 ((BH (yA Y k)).map .d)]⟩) ?lei ⟨0,by omega,rfl,rfl⟩ ?roundi
      case lei=>exact Aq (by exact Yd<|Yd<|Yp<|Yd<|Yd<|Yd<|Yd<|Yd<|Yd<|Yd<|Yp<|FrLe.cons rfl (Ik rfl (Bc rfl))<|Yd<|FrLe.nil) (by exact Yv<|HpLe.cons (OwLe.obj (by rw [Rw]))<|HpLe.cons (OwLe.dead)<|HpLe.cons (OwLe.dead)<|HpLe.cons (OwLe.dead)<|HpLe.cons (OwLe.obj rfl)<|Yv<|HpLe.nil)
      case roundi =>
       rintro mz _ ⟨i,hi,rfl,rfl⟩
       by_cases hlti:i<3
       ·have hli : i < (oS o 3).length := by omega
        have p1:PB [⟨((1:Int):Rat),MH (oS o 3) i⟩] 1 1 1:=GC WT (DO (by omega) (by omega)) (Lz o 3 (by omega) _ (Oz hli))
        have cs:=GV (rA V k i) [⟨((1:Int):Rat),MH (oS o 3) i⟩] 10 1 (FQ V k i) p1.sz (p1.ex.mono (by omega) (by omega)) (by simp) (by omega)
        have pr:=Jc (Lz o 3 (by omega)) (FQ V k) i (by omega)
        refine Ac<|Y1<|Wm<|Wm ?_;refine Wq Am ?_;apply Y0;refine Ct ?_;refine Ys<|Ac<|AWp.block<|Ac ?_
        refine Dr [[],[],[],[(76,1),(77,2)],[(78,3)],[],[],[],[(81,6),(82,7)],[(83,8)],[(80,5),(84,9)],[(85,10)],[(79,4),(86,11)],[(75,0),(87,12)]] [[],[],[],[1,2],[1,2,3],[],[],[],[6,7],[6,7,8],[5,6,7,8,9],[5,6,7,8,9,10],[1,2,3,4,5,6,7,8,9,10,11],[0,1,2,3,4,5,6,7,8,9,10,11,12]] ?_
        refine Xq Af ?_;refine Xq Af ?_;refine Xq Af ?_;refine Xq (BI (k:=i) (ah rfl) (ah rfl) (Ad rfl) (Ad rfl) hlti) ?_;refine Xq (DQ (e:=⟨g,54,Bh (rA V k) 3⟩) 5 0 (ah rfl) rfl rfl (Ad rfl) rfl (BE hlti)) ?_;refine Xq (Ag (Bu 1 (by omega) (by omega))) ?_;refine Xq Af ?_;refine Xq Af ?_;refine Xq (DK (k:=i) rfl (ah rfl) (Ad rfl) (Ad rfl) rfl hli) ?_;refine Xq AA ?_;(refine Hq rfl ?_;refine BO (Ad rfl) rfl rfl rfl ?_;(repeat ((first | refine ⟨_,AK (ah rfl),?_⟩ | refine ⟨_,Po rfl,?_⟩);refine ⟨_,rfl,?_⟩));refine ⟨_,rfl,?_⟩;refine ⟨_,rfl,?_⟩);(refine Xq (By (ah rfl) (Ad rfl) (Ad rfl) rfl rfl rfl rfl rfl) ?_);refine Xq (Ag (cs)) ?_;refine Xq (Ag (KP pr (HX p1 (FQ V k i)) (by omega) (by omega))) ?_;refine ⟨_,rfl,?_⟩
        refine Wa<|Y0<|Y1<|Wa<|Y0<|AWp.block ?_
        refine Ba (fun mz σ=>∃ j,j≤3∧mz = 3 - j∧σ = ⟨[(1,.d (u8D U Y)),(2,.d (ex (.int .u8 (o:Nat)))),(3,.ptr 0 0),(7,.d (ex (.bool true))),(8,.d (sX b0 3 c0)),(9,.d (ex (.int .i64 3))),(11,.d (Jz (oS o 3))),(12,.d (Bi (Hn (oS o 3) (yA Y) (rA V) 3 k))),(13,.d (ex (.int .i64 (k:Nat)))),(14,.d (sX g 3 cg)),(15,.ptr 6 0),(16,.d (Bi (Iq (oS o 3) (rA V k) (i+1)))),(17,.d (ex (.int .i64 (i:Nat)))),(18,.d (ex (.int .i64 (j:Nat))))],[.var 25 ([VU T V].map .d),.obj (Ce (CS 3 (fun _=>3) b0 b c (DL (yA Y) (rA V) k i j)) (Hg 3 c0 c)),.dead,.dead,.dead,.obj (Bo [⟨g,54,Bh (rA V k) 3⟩]),.var 54 ((BH (yA Y k)).map .d)]⟩) ?lej ⟨0,by omega,rfl,rfl⟩ ?roundj
        case lej=>exact Aq (by exact Yd<|Yd<|Yp<|Yd<|Yd<|Yd<|Yd<|Yd<|Yd<|Yd<|Yp<|Yd<|Yd<|Yd<|FrLe.nil) (by exact Yv<|HpLe.cons (OwLe.obj rfl)<|HpLe.cons (OwLe.dead)<|HpLe.cons (OwLe.dead)<|HpLe.cons (OwLe.dead)<|HpLe.cons (OwLe.obj rfl)<|Yv<|HpLe.nil)
        case roundj =>
         rintro mz _ ⟨j,hj,rfl,rfl⟩
         by_cases hltj:j<3
         ·refine Ac<|Y1<|Wm<|Wm ?_;refine Wq Am ?_;apply Y0;refine Ct ?_;refine Ys<|Ac<|AWp.block ?_
          refine Dr [[],[],[(94,0),(95,1)],[(96,2)],[],[],[],[(99,5),(100,6)],[(101,7)],[],[(102,8),(103,9)],[(104,10)],[],[],[],[(107,13),(108,14)],[(109,15)],[],[],[(111,17),(112,18)],[(113,19)],[(110,16),(114,20)],[(106,12),(115,21)],[(105,11),(116,22)],[(97,3),(98,4)]] [[],[],[0,1],[0,1,2],[],[],[],[5,6],[5,6,7],[],[5,6,7,8,9],[5,6,7,8,9,10],[],[],[],[13,14],[13,14,15],[],[],[17,18],[17,18,19],[13,14,15,16,17,18,19,20],[12,13,14,15,16,17,18,19,20,21],[5,6,7,8,9,10,11,12,13,14,15,16,17,18,19,20,21,22],[0,1,2,3,4,5,6,7,8,9,10,11,12,13,14,15,16,17,18,19,20,21,22,23]] ?_
          refine Xq Af ?_;refine Xq Af ?_;refine Xq (BI (k:=i) (ah rfl) (ah rfl) (Ad rfl) (Ad rfl) hlti) ?_;refine Xq (Ph 1 0 (ah rfl) rfl rfl (Ad rfl) rfl (JC hlti)) ?_;refine Xq Af ?_;refine Xq Af ?_;refine Xq Af ?_;refine Xq (BI (k:=i) (ah rfl) (ah rfl) (Ad rfl) (Ad rfl) hlti) ?_;refine Xq (Ph 1 0 (ah rfl) rfl rfl (Ad rfl) rfl (JC hlti)) ?_;refine Xq Af ?_;refine Xq (BI (k:=j) (ah rfl) (ah rfl) (Ad rfl) (Ad rfl) hltj) ?_;refine Xq (A0H (e:=⟨b i,54,Bh (DL (yA Y) (rA V) k i j i) 3⟩) 1 (i+1) (ah rfl) rfl (JR hlti) (Ad rfl) rfl (BE hltj)) ?_;refine Xq Ar ?_;refine Xq Af ?_;refine Xq Af ?_;refine Xq (BI (k:=i) (ah rfl) (ah rfl) (Ad rfl) (Ad rfl) hlti) ?_;refine Xq (DQ (e:=⟨g,54,Bh (rA V k) 3⟩) 5 0 (ah rfl) rfl rfl (Ad rfl) rfl (BE hlti)) ?_;refine Xq Af ?_;refine Xq Af ?_;refine Xq (BI (k:=j) (ah rfl) (ah rfl) (Ad rfl) (Ad rfl) hltj) ?_;refine Xq (DQ (e:=⟨g,54,Bh (rA V k) 3⟩) 5 0 (ah rfl) rfl rfl (Ad rfl) rfl (BE hltj)) ?_;refine Xq (Ag (Ms (rA V k i) (rA V k j) 10 10 (FQ V k i) (FQ V k j) (by omega))) ?_;refine Xq (Ag (Ms (yA Y k) (rA V k i*rA V k j) 1 20 (KW Y k) ((FQ V k i).mul (FQ V k j)) (by omega))) ?_;refine Xq (Ag (Mu (DL (yA Y) (rA V) k i j i j) (yA Y k*(rA V k i*rA V k j)) 70 21 (WC Y V k i j i j hk3) ((KW Y k).mul ((FQ V k i).mul (FQ V k j))) (by omega))) ?_;refine Xq (BI (k:=j) (ah rfl) (ah rfl) (Ad rfl) (Ad rfl) hltj) ?_;refine ⟨_,rfl,?_⟩
          refine TM (e:=⟨b i,54,Bh (DL (yA Y) (rA V) k i j i) 3⟩) 1 (i+1) (ao rfl) (ao rfl) rfl (JR hlti) (Ad rfl) rfl (GT hltj) rfl ?_;apply AWl.nil;apply Ai;refine Yn<|AWp.region<|Wm ?_;refine Wq AR ?_;refine Wa ?_;apply AWl.nil
          refine ALoop.next (3 - (j+1)) (by omega) ⟨j+1,by omega,rfl,rfl⟩ ?_
          exact Aq (by exact Yd<|Yd<|Yp<|Yd<|Yd<|Yd<|Yd<|Yd<|Yd<|Yd<|Yp<|Yd<|Yd<|Yd<|FrLe.nil) (by exact Yv<|HpLe.cons (OwLe.obj (by rw [UK hlti,Rx]))<|HpLe.cons (OwLe.dead)<|HpLe.cons (OwLe.dead)<|HpLe.cons (OwLe.dead)<|HpLe.cons (OwLe.obj rfl)<|Yv<|HpLe.nil)
         ·obtain rfl : j = 3 := by omega
          refine Ac<|Y1<|Wm<|Wm ?_;refine Wq Ak ?_;apply Y0;refine Cf ?_;apply AZ;apply AE;apply AM;apply AF;apply Ai;refine Yn<|AWp.region<|Wm ?_;refine Wq AR ?_;refine Wa ?_;apply AWl.nil
          refine ALoop.next (3 - (i+1)) (by omega) ⟨i+1,by omega,rfl,rfl⟩ ?_
          exact Aq (by exact Yd<|Yd<|Yp<|Yd<|Yd<|Yd<|Yd<|Yd<|Yd<|Yd<|Yp<|Yd<|Yd<|FrLe.nil) (by exact Yv<|HpLe.cons (OwLe.obj (by rw [Uc]))<|HpLe.cons (OwLe.dead)<|HpLe.cons (OwLe.dead)<|HpLe.cons (OwLe.dead)<|HpLe.cons (OwLe.obj rfl)<|Yv<|HpLe.nil)
       ·obtain rfl : i = 3 := by omega
        have p1:=Jc (Lz o 3 (by omega)) (FQ V k) 3 (by omega)
        have p2:=p1.mul p1 (by omega) (by omega)
        have p3:=NZ hl3 (Lz o 3 (by omega)) (KW Y) (FQ V) k
        refine Ac<|Y1<|Wm<|Wm ?_;refine Wq Ak ?_;apply Y0;refine Cf ?_;apply AZ;apply AE;apply AM;apply AF;apply Yn
        refine Dr [[],[],[],[],[(121,2),(122,3)],[(120,1),(123,4)],[(119,0),(124,5)]] [[],[],[],[],[2,3],[1,2,3,4],[0,1,2,3,4,5]] ?_
        refine Xq Af ?_;refine Xq Ar ?_;refine Xq Af ?_;refine Xq Af ?_;refine Xq (Ag (OW p1 p1 (by omega) (by omega) (by omega) (by omega) (by omega) (by omega))) ?_;refine Xq (Ag (GV (yA Y k) (EP (Iq (oS o 3) (rA V k) 3) (Iq (oS o 3) (rA V k) 3)) 1 219 (KW Y k) p2.sz (p2.ex.mono (by omega) (by omega)) (Nat.le_trans p2.len (by omega)) (by omega))) ?_;refine Xq (Ag (KP p3 (HX p2 (KW Y k)) (by omega) (by omega))) ?_;refine ⟨_,rfl,?_⟩
        refine Wa ?_;apply AWl.nil;apply Ai;refine Yn<|AWp.region<|Wm ?_;refine Wq AR ?_;refine Wa ?_;apply AWl.nil
        refine ALoop.next (K - (k+1)) (by omega) ⟨k+1,by omega,rfl,rfl⟩ ?_
        exact Aq (by exact Yd<|Yd<|Yp<|Yd<|Yd<|Yd<|Yd<|Yd<|Yd<|FrLe.nil) (by exact Yv<|HpLe.cons (OwLe.obj (by rw [Ud]))<|HpLe.nil)
     ·obtain rfl : k = K := by omega
      by_cases hY3:k<Y.length
      ·refine Ac<|Y1<|Wm<|Wm ?_;refine Wq AH ?_;refine Wq Am ?_;refine Wm ?_;refine Wg Af ?_;refine Wg Ak ?_;refine Wq AP ?_;apply Y0;refine Cf ?_;apply AZ;apply AE;apply AM;apply AF;apply Yn
       exact Aq (by exact Yd<|Yd<|Yd<|Yd<|Yd<|Yd<|FrLe.nil) (by exact HpLe.cons (OwLe.dead)<|HpLe.cons (OwLe.obj rfl)<|HpLe.nil)
      ·refine Ac<|Y1<|Wm<|Wm ?_;refine Wq AH ?_;refine Wq Ak ?_;refine Wm ?_;refine Ws ?_;refine Ws ?_;refine Wq AD ?_;apply Y0;refine Cf ?_;apply AZ;apply AE;apply AM;apply AF;apply Yn
       exact Aq (by exact Yd<|Yd<|Yd<|Yd<|Yd<|Yd<|FrLe.nil) (by exact HpLe.cons (OwLe.dead)<|HpLe.cons (OwLe.obj rfl)<|HpLe.nil)
   have hMs:∀ i j,RSz (Bj (yA Y) (rA V) K i j) 70:=fun i j=>(Jb Y V i j K).mono (by omega)
   obtain ⟨L,hL3,hB,hdg,hsg,hsim,cg1⟩:=Ub o (yA Y) (rA V) K (fun k _=>ZT k) hMs
   have cg2:=MJ o (yA Y) (rA V) K (fun k _=>ZT k) hMs
   have hw:=NZ hl3 (Lz o 3 (by omega)) (KW Y) (FQ V) K
   have hsum:=JE hB (by omega) L.length (Nat.le_refl _)
   rw [List.take_length] at hsum
   have csame:=NL hsum.can hw.can hsim
   refine Y1<|Wm<|Wm ?_;refine Wq (QV Oy 1 (ao rfl) cg1 rfl (ArgsZ.le rfl (D.le.refl _) (ArgsZ.set rfl (fun s hs v hv=>Qd hs (fun _ _=>rfl) hbc hb0 hb0' hv) ArgsZ.nil)) Xl (LK _ _)) ?_;refine Wm ?_;refine Wq Bl ?_;refine Wq Bl ?_;refine Wa<|Wa<|Y0<|Ac<|Y1<|Wm ?_;refine Wq Ak ?_;apply Y0;refine Cf ?_;refine Ys<|Ac<|Y1<|Wa<|Y0<|AWp.block ?_
   refine Ba (fun mz σ=>∃ k,k≤L.length∧mz = L.length - k∧σ = ⟨[(2,.d (ex (.int .u8 (o:Nat)))),(7,.d (ex (.bool true))),(8,.d (sX b0 3 c0)),(9,.d (ex (.int .i64 3))),(12,.d (Bi (Hn (oS o 3) (yA Y) (rA V) 3 K))),(19,.d (Io L)),(21,.d (ex (.int .i64 (k:Nat))))],[.dead,.obj (Ce (CS 3 (fun _=>3) b0 b c (Bj (yA Y) (rA V) K)) (Hg 3 c0 c))]⟩) ?le ⟨0,by omega,rfl,rfl⟩ ?round
   case le=>exact Aq (by exact Yd<|Yd<|Yd<|Yd<|Yd<|Yd<|Yd<|FrLe.nil) (by exact HpLe.cons (OwLe.dead)<|HpLe.cons (OwLe.obj rfl)<|HpLe.nil)
   case round =>
    rintro mz _ ⟨k,hk,rfl,rfl⟩
    by_cases hlt:k<L.length
    ·have hbk:=(hB _ (IZ hlt)).1
     have hdl:=Ze (hdg _ (IZ hlt)) (A1d hbk)
     refine Ac<|Y1<|Wm<|Wm ?_;refine Wq AH ?_;refine Wq Am ?_;apply Y0;refine Ct ?_;refine Ys<|Ac<|AWp.block<|Y1<|Wm<|Wm ?_;refine Wq Az ?_;refine Wq Bb ?_;refine Wq BS ?_;refine Wq (Ag (Sg hbk (by omega) (by omega) (by omega))) ?_;refine Wq Br ?_;refine Wm ?_;refine Wg Af ?_;refine Wg Af ?_;refine Wg Az ?_;refine Wg Bb ?_;refine Wg BS ?_;refine Wg (Ag (XQ (Og L k).p (hbk.ex.mono (Int.le_refl _) (by omega)) (Nat.le_trans hbk.len (by omega)))) ?_;refine Wg Ak ?_;refine Wq AD ?_;apply Y0;refine Cf ?_;apply BA;apply Ai;refine Yn<|AWp.region<|Wm ?_;refine Wq AR ?_;refine Wa ?_;apply AWl.nil
     refine ALoop.next (L.length - (k+1)) (by omega) ⟨k+1,by omega,rfl,rfl⟩ ?_
     exact Aq (by exact Yd<|Yd<|Yd<|Yd<|Yd<|Yd<|Yd<|FrLe.nil) (by exact HpLe.cons (OwLe.dead)<|HpLe.cons (OwLe.obj rfl)<|HpLe.nil)
    ·obtain rfl : k = L.length := by omega
     refine Ac<|Y1<|Wm<|Wm ?_;refine Wq AH ?_;refine Wq Ak ?_;apply Y0;refine Cf ?_;apply AZ;apply AE;apply AM;apply AF;refine Yn<|Y1<|Wm ?_;refine Wq (Ag (Lp L 3 28000 5000 1 hB (by omega) (by omega) (by omega) (by omega) (by omega) (by omega))) ?_;refine Wm ?_;refine Wq Bl ?_;refine Wq Bl ?_;refine Wa<|Wa<|Y0<|Ac<|Y1<|Wm ?_;refine Wq Ak ?_;refine Wm ?_;refine Wg Af ?_;refine Wg Af ?_;refine Wg (Ag (csame)) ?_;refine Wg Br ?_;refine Wq AD ?_;refine Wm ?_;refine Wg Af ?_;refine Wg (Ag (JH L (by omega) (fun k hk=>hsg _ (IZ hk)))) ?_;refine Wg Br ?_;refine Wq AD ?_;apply Y0;refine Cf ?_;refine Ys<|Ac<|Y1<|Wa<|Y0<|AWp.block ?_
     refine Ba (fun mz σ=>∃ k,k≤3∧mz = 3 - k∧∃ len b c,(∀ i,i<3→len i = if i<k then 4 else 3)∧(∀ i,i<3→len i≤c i∧c i≤9223372036854775807)∧σ = ⟨[(2,.d (ex (.int .u8 (o:Nat)))),(7,.d (ex (.bool true))),(8,.d (sX b0 3 c0)),(9,.d (ex (.int .i64 3))),(24,.d (ex (.int .i64 (k:Nat))))],[.dead,.obj (Ce (CS 3 len b0 b c (Cy (Bj (yA Y) (rA V) K) 3)) (Hg 3 c0 c))]⟩) ?le2 ⟨0,by omega,rfl,fun _=>3,b,c,fun i hi=>(if_neg (Nat.not_lt_zero i)).symm,hbc,rfl⟩ ?round2
     case le2=>exact Aq (by exact Yd<|Yd<|Yd<|Yd<|Yd<|FrLe.nil) (by exact HpLe.cons (OwLe.dead)<|HpLe.cons (OwLe.obj (by rw [UF]))<|HpLe.nil)
     case round2 =>
      clear hbc
      rintro mz _ ⟨k,hk,rfl,len,b,c,hlen,hbc,rfl⟩
      by_cases hlt:k<3
      ·have hlk : len k = 3 := by rw [hlen k hlt, if_neg (Nat.lt_irrefl k)]
       have hN:Cy (Bj (yA Y) (rA V) K) 3 k (len k) = ((0:Int):Rat):=by rw [hlk,Cy,if_neg (by omega),if_neg (by omega)]
       refine Ac<|Y1<|Wm<|Wm ?_;refine Wq Am ?_;apply Y0;refine Ct ?_;refine Ys<|Ac<|AWp.block ?_
       refine Hc (MN (e:=0) (e2:=1) (by kernel_rfl) (K4 (K4 (AddE.add (AddE.keep (AddE.keep AddE.nil))))) (by kernel_rfl) (K4 (K4 (AddE.add (AddE.keep (AddE.keep AddE.nil))))) (by kernel_rfl)) [[],[],[],[],[(181,2),(182,3)],[(183,4)],[],[(185,6)]] [[],[],[],[],[2,3],[2,3,4],[],[6]] rfl (by kernel_rfl) (by kernel_rfl) (by kernel_rfl) ?_
       refine Xq Af ?_;refine Xq Af ?_;refine Xq Af ?_;refine Xq Af ?_;refine Xq (BI (k:=k) (ah rfl) (ah rfl) (Ad rfl) (Ad rfl) hlt) ?_;refine Xq (Ph 1 0 (ah rfl) rfl rfl (Ad rfl) rfl (JC hlt)) ?_;refine Xq (Ag (Bu 0 (by omega) (by omega))) ?_;(refine Xq (By (ah rfl) (Ad rfl) (Ad rfl) rfl rfl rfl rfl rfl) ?_);refine ⟨_,rfl,?_⟩
       refine TO (r:=BH ((0:Int):Rat)) 1 (k+1) (ao rfl) rfl (JR hlt) (UG hlt) (Cj _ _) (by decide) (hbc k hlt).1 (hbc k hlt).2 rfl rfl (Ad rfl) (Ad rfl) rfl rfl (by omega) (by omega) (fun g c=>rfl) fun g cg hg1 hg2=>?_
       refine Wq (BI (k:=k) (ao rfl) (ao rfl) (Ad rfl) (Ad rfl) hlt) ?_;refine Ym (e:=⟨b0,63,Il 3 len b c⟩) 1 0 (ao rfl) (ao rfl) rfl rfl (Ad rfl) (GX rfl) (Wd hlt) rfl ?_;apply AWl.nil;apply OnlyN.mk';apply Ai;refine Yn<|AWp.region<|Wm ?_;refine Wq AR ?_;refine Wa ?_;apply AWl.nil
       refine ALoop.next (3 - (k+1)) (by omega) ⟨k+1,by omega,rfl,Dv len k (len k+1),Dv b k g,Dv c k cg,fun i hi=>?_,fun i hi=>?_,rfl⟩ ?_
       ·unfold Dv
        by_cases e:i = k
        ·rw [if_pos e,hlk,if_pos (by omega)]
        ·rw [if_neg e,hlen i hi]
         by_cases h:i<k
         ·rw [if_pos h,if_pos (by omega)]
         ·rw [if_neg h,if_neg (by omega)]
       ·unfold Dv
        by_cases e:i = k
        ·rw [if_pos e,if_pos e]
         exact ⟨hg1,hg2⟩
        ·rw [if_neg e,if_neg e]
         exact hbc i hi
       ·exact Aq (by exact Yd<|Yd<|Yd<|Yd<|Yd<|FrLe.nil) (by exact HpLe.cons (OwLe.dead)<|HpLe.cons (OwLe.obj (by rw [← hN,UL hlt,UH hlt]))<|HpLe.nil)
      ·obtain rfl : k = 3 := by omega
       have hlen4:∀ i,i<3→len i = 4:=fun i hi=>by rw [hlen i hi,if_pos hi]
       refine Ac<|Y1<|Wm<|Wm ?_;refine Wq Ak ?_;apply Y0;refine Cf ?_;apply AZ;apply AE;apply AM;apply AF;refine Yn<|Y1<|Wm ?_;refine Wq El ?_
       refine Fh [] [] (KV 4 (by omega) (by omega)) (.inl rfl) rfl rfl (.inl ⟨rfl,rfl⟩) (by repeat (first | exact ArgsC.nil | refine ArgsC.d rfl (D.le.refl _) ?_ | refine Ep rfl rfl ?_)) (by decide) SelR.nil trivial rfl ?_
       rintro _ _ ⟨g,cg,hc1,hc2,rfl,rfl⟩
       refine ⟨_,_,_,(by first | exact AVRen.d | exact AVRen.own rfl | exact AVRen.ptr rfl | exact Eq rfl),(by repeat (first | exact SetR.nil | (apply SetR.cons;(first | exact OwRen.dead | exact BJ | exact OwRen.obj | exact BU | exact BK rfl);exact rfl))),(by repeat (first | exact AppR.nil | (apply AppR.cons;(first | exact OwRen.dead | exact BJ | exact OwRen.obj | exact BU | exact BK rfl);exact rfl))),?_⟩
       refine Wa<|Y0<|Y1<|Wm<|Wm ?_;refine Wq (Ag (Bu (-1) (by omega) (by omega))) ?_;refine Wq (BI (k:=3) (ao rfl) (ao rfl) (Ad rfl) (Ad rfl) (by omega)) ?_;refine TM (e:=⟨g,54,Bh zR 4⟩) 3 0 (ao rfl) (ao rfl) rfl rfl (Ad rfl) rfl (GT (j:=3) (by omega)) rfl ?_;refine Y0<|Y1<|Wm<|Wm ?_;refine Wq El ?_;refine Wq (Ag (Nq o 4 ho (by omega))) ?_;refine Wm<|Wm ?_;(refine Cz rfl rfl ?_;(refine CE (Ad rfl) (Ad rfl) rfl rfl rfl rfl rfl ?_;(repeat ((first | refine ⟨_,AK (ao rfl),?_⟩ | refine ⟨_,Po rfl,?_⟩);refine ⟨_,rfl,?_⟩));refine ⟨_,rfl,?_⟩))
       refine TO (r:=[sX g 4 cg]) 1 0 (ao rfl) rfl rfl rfl (FM _ _ _ _) (by decide) hb0 hb0' rfl rfl (Ad rfl) (Ad rfl) rfl rfl (by decide) (by decide) (fun g c=>rfl) fun g3 c3 hg1 hg2=>?_
       refine SF (Ka 1 3 (by decide) (by simp [CS,Hg]) rfl rfl rfl rfl) ?_
       have hc4:∀ i,i<4→4≤Dv c 3 cg i∧Dv c 3 cg i≤9223372036854775807:=fun i hi=>by
        unfold Dv
        by_cases e:i = 3
        ·rw [if_pos e]
         exact ⟨hc1,hc2⟩
        ·rw [if_neg e]
         have h:=hbc i (by omega)
         rw [hlen4 i (by omega)] at h
         exact h
       have hG:=UE (b:=b) (c:=c) (M:=Bj (yA Y) (rA V) K) (b0:=b0) (g:=g) (g3:=g3) (cg:=cg) hlen4
       refine Wq (QV Oy 1 (ao rfl) cg2 rfl (ArgsZ.le rfl (D.le.refl _) (ArgsZ.set rfl (fun s hs v hv=>Qd (fun e he=>hs e (by rw [← hG] at he;exact he)) (fun _ _=>rfl) hc4 hg1 hg2 hv) ArgsZ.nil)) (fun e he=>Xl e (by rw [← hG];exact he)) (LK _ _)) ?_;refine Wm ?_;refine Wq Bl ?_;refine Wq Bl ?_;refine Wa<|Wa<|Y0<|Y1<|Wm<|Wm ?_;refine Wg Af ?_;refine Wg Am ?_;refine Wq AP ?_;refine Wa<|Y0 ?_;apply As
       exact Yf
open Go.ChangeAt Go.Joins
theorem Iz (os : Os) (started:os.Started) (H:Type) (enc:TypeId × Value→H) :
  ReturnsInHanded {} Tryz.checked os 5 .any (Rows.squaresRowsSpec.pre6 enc Tryz.prog Tryz.f5 Rows.squaresRowsRow.domain false) (Rows.squaresRowsSpec.post enc Tryz.prog Tryz.f5 false true false false):=by
 refine returnsInHanded_of_change (C := Tryz.checked) own started (by kernel_rfl) Tryz.func5
  (ChangeSpec.witness6 (enc:=enc) (C:=Tryz.checked) false ⟨#[],#[.agg #[.slice none 0 0],.slice none 0 0,.int .u8 0],[]⟩ 8 (by kernel_rfl) (by kernel_rfl) (by kernel_rfl) (by kernel_rfl)) ?_
 intro W base args ds gs before hval0 hW hcnd _
 have Fb:∀ (j:Nat) t v,Tryz.f5.params[j]? = some t→args[j]? = some v→Value.okWide Tryz.prog W .any base t v:=hval0
 have hW':=hW
 obtain ⟨p,q,hA0,hV,rfl,hfz,hnd⟩:=hW
 have hA:DataW.TrodAll enc Tryz.prog W 0 (fun _=>true) true Tryz.f5.params.toList args.toList ds p:=hA0
 rw [Tryz.params5] at hA Fb
 obtain ⟨v0,vs0,d0,ds0,p0,q0,hargs,rfl,rfl,h0,r0⟩:=trodAll_cons hA
 obtain ⟨v1,YB,d1,ds1,p1,q1,rfl,rfl,rfl,h1,r1⟩:=trodAll_cons r0
 obtain ⟨v2,MD,d2,ds2,p2,q2,rfl,rfl,rfl,h2,r2⟩:=trodAll_cons r1
 obtain ⟨rfl,rfl,rfl⟩:=trodAll_nil r2
 obtain rfl:args = #[v0,v1,v2]:=by cases args;simp_all
 obtain ⟨rfl,rfl⟩:=trodVars_none hV
 have k0:=h0
 have lt0:∀ x∈p0,x.block<W.heap.size:=by obtain ⟨m,hm⟩:=k0;exact DataW.trod_lt m _ _ _ hm
 have k1:=h1
 have lt1:∀ x∈p1,x.block<W.heap.size:=by obtain ⟨m,hm⟩:=k1;exact DataW.trod_lt m _ _ _ hm
 have k2:=h2
 have lt2:∀ x∈p2,x.block<W.heap.size:=by obtain ⟨m,hm⟩:=k2;exact DataW.trod_lt m _ _ _ hm
 obtain ⟨T0,X0,hX0,e0⟩:∃ T X,Mr8 X∧(BF [VU T X]).rel (GS.all W) v0:=by
  obtain ⟨cs,rfl,_⟩:=okWide_struct Tryz.underlying25 (Fb 0 25 v0 rfl rfl)
  obtain ⟨fuel,hf⟩:=h0
  obtain ⟨ds,⟨T,X,hX,rfl⟩,hg⟩:=WR _ _ _ _ _ _ _ _ _ hf
  exact ⟨T,X,hX,hg.agg rfl fun b k h=>h⟩
 obtain ⟨T1,X1,hX1,e1⟩:∃ T X,U8s X∧(u8D T X).rel (GS.all W) v1:=by
  obtain ⟨a,len,cap,rfl⟩:=okWide_slice Tryz.underlying62 (Fb 1 62 v1 rfl rfl)
  obtain ⟨fuel,hf⟩:=h1
  obtain ⟨ds,⟨T,X,hX,rfl⟩,hg⟩:=Up _ _ _ _ _ _ _ _ _ hf
  exact ⟨T,X,hX,hg.cell rfl fun b k h=>h⟩
 obtain ⟨n2,rfl,hn2,_,hw2⟩:=open_int Tryz.underlying5 (Fb 2 5 v2 rfl rfl) h2
 obtain ⟨m2,rfl⟩:∃ m:Nat,n2 = (m:Int):=⟨n2.toNat,by have:=bounds_u8 hw2;omega⟩
 have e2:(ex (.int .u8 (m2:Nat))).rel (GS.all W) (.int .u8 (m2:Nat)):=rfl
 clear hA0 hval0
 refine ((Wp T0 X0 T1 X1 m2 hX0 hX1 (by have:=bounds_u8 hw2;omega)).2 (GS.all W) [v0,v1,(.int .u8 ((m2:Nat):Int))] (VJ W) rfl (fun k hk=>?_)).mono fun e W' ⟨v,he,s',hw,hl,hv⟩=>?_
 ·match k,hk with
  | 0,_=>exact e0
  | 1,_=>exact e1
  | 2,_=>exact e2
 obtain rfl:v = .bool true:=hv
 subst he
 have bel:Below W.heap.size W W':=hw ▸ hl.ext
 exact ⟨_,rfl,_,_,_,[],_,[],hW',trodAll_mk1 (shut_bool Tryz.underlying4 _),(trodAll_cons_mk (Below.trod OC (by kernel_rfl) (of_decide_eq_true (by kernel_rfl)) k0 bel lt0) (trodAll_cons_mk (Below.trod OC (by kernel_rfl) (of_decide_eq_true (by kernel_rfl)) k1 bel lt1) (trodAll_cons_mk (Below.trod OC (by kernel_rfl) (of_decide_eq_true (by kernel_rfl)) k2 bel lt2) trodAll_mk0))),rfl,bel.frame _,fun h=>by cases h⟩
theorem JF : Rows.squaresRowsRow.holds Tryz.pinned (OpenSpec.ofChange Rows.squaresRowsSpec) :=
 OpenClaim.holds_of_wide 5 Tryz.f5 rfl rfl rfl rfl rfl rfl rfl ⟨rfl, rfl, rfl, rfl, rfl⟩ rfl rfl rfl rfl rfl (by kernel_rfl) Tryz.func5 (by kernel_rfl)
  (of_decide_eq_true (by kernel_rfl)) (by unfold Func.isWrapper;first | (rw [if_pos (by decide +kernel)];kernel_rfl) | (rw [if_neg (by decide +kernel)];exact ⟨rfl,rfl⟩))
  (fun os started H enc _=>Iz os started H enc)
theorem squaresRows_holds : Rows.SquaresRowsSaid:=JF
#print axioms squaresRows_holds
end Go.Proofs.YtnhgojfjmhjokaaGreat
