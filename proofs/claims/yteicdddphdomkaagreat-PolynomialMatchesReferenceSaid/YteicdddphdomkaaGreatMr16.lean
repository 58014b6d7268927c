/-
  Part 16 of the proof that polynomialMatchesReference_holds holds; the statement is the last theorem of the last part. No condition.
-/
import Derived.Test.YteicdddphdomkaaGreatMr4
import Derived.Test.YteicdddphdomkaaGreatMr8
set_option linter.unusedSimpArgs false
set_option linter.unusedVariables false
namespace Go.Proofs.YteicdddphdomkaaGreat
open Go.RowKit
theorem lexTo_step (a b:Nat→Int) (k n:Nat):lexTo a b k (n+1) = if a k<b k then -1 else if b k<a k then 1 else lexTo a b (k+1) n:=by
 have hd:sub8 a b k = a k - b k:=rfl
 have h1:a k<b k↔sub8 a b k<0:=by rw [hd];omega
 have h2:b k<a k↔0<sub8 a b k:=by rw [hd];omega
 rw [lexTo_sgn,lexTo_sgn,sgnTo]
 simp only [h1,h2]
 generalize sub8 a b k = d
 by_cases h:d = 0
 ·subst h;simp
 ·rw [if_neg h]
  by_cases h3:d<0
  ·simp [h3]
  ·simp [h3,show 0<d by omega]
set_option maxRecDepth 100000 in
set_option maxHeartbeats 800000 in
theorem RmCmp_any (a b:Nat→Int) (w:World) :
  Calls Tryz.prog 73 #[.agg #[.int .i64 (a 0),.int .i64 (a 1),.int .i64 (a 2),.int .i64 (a 3),.int .i64 (a 4),.int .i64 (a 5),.int .i64 (a 6),.int .i64 (a 7)],.agg #[.int .i64 (b 0),.int .i64 (b 1),.int .i64 (b 2),.int .i64 (b 3),.int .i64 (b 4),.int .i64 (b 5),.int .i64 (b 6),.int .i64 (b 7)]] w fun e w'=>e = .returned (.int .i64 (lex8 a b))∧Ext w w':=by
 go_enter Tryz.func73,Tryz.ntmps73
 go_wp2
 go_loopw [5] (fun i wr=>∃ k:Nat,k≤8∧i = .int .i64 k∧Hid (lex8 a b = lexTo a b k (8 - k)∧Blk wr w.heap.size 31 (c8 a)∧Blk wr (w.heap.size+1) 31 (c8 b)∧Ext w wr)) (fun i _=>8 - (intOf i).toNat)
 case atStart=>exact ⟨0,by omega,rfl,rfl,(Blk.new _ _ _).alloc _,Blk.new' _ _ (by simp),((Ext.refl _).alloc _).alloc _⟩
 case round =>
  obtain ⟨k,hk,rfl,hI⟩:=hrel
  by_cases hlt:k<8
  ·have hd1 : decide ((k : Int) < 8) = true := by simp; omega
   have xa:=hI.out.2.1.at8 hlt
   have xb:=hI.out.2.2.1.at8 hlt
   have hs:Hid (lexTo a b k (8 - k) = if a k<b k then -1 else if b k<a k then 1 else lexTo a b (k+1) (8 - (k+1))):=by rw [show 8 - k = (8 - (k+1))+1 by omega];exact lexTo_step a b k _
   generalize a k = x at *
   generalize b k = y at *
   by_cases h1:x<y
   ·have h:=hs.out
    rw [if_pos h1] at h
    replace h:=hide h
    clear hs
    go_wp2
    go_quiet (fail)
    go_wp2
    go_ret
    exact ⟨by rw [hI.out.1,h.out];rfl,hI.out.2.2.2.drewN _⟩
   ·by_cases h2:y<x
    ·have h:=hs.out
     rw [if_neg h1,if_pos h2] at h
     replace h:=hide h
     clear hs
     go_wp2
     go_quiet (fail)
     go_wp2
     go_quiet (fail)
     go_wp2
     go_ret
     exact ⟨by rw [hI.out.1,h.out];rfl,(hI.out.2.2.2.drewN _).drewN _⟩
    ·have h:=hs.out
     rw [if_neg h1,if_neg h2] at h
     replace h:=hide h
     clear hs
     go_wp2
     go_quiet (fail)
     go_wp2
     go_quiet (fail)
     go_wp2
     exact ⟨⟨k+1,hlt,by simp,by rw [hI.out.1,h.out],hI.out.2.1,hI.out.2.2.1,hI.out.2.2.2.drewN _⟩,by simp [intOf];omega⟩
  ·obtain rfl : k = 8 := by omega
   have hd1:decide (((8:Nat):Int)<8) = false:=by simp
   go_wp2
   go_ret
   exact ⟨by rw [hI.out.1];rfl,hI.out.2.2.2⟩
set_option maxRecDepth 100000 in
set_option maxHeartbeats 1600000 in
theorem Rweight_any (r a:Nat→Int) (w:World) (hr:In8 r (-1000) 1000) (ha:In8 a (-1000000) 1000000) :
  Calls Tryz.prog 101 #[.agg #[.int .i64 (r 0),.int .i64 (r 1),.int .i64 (r 2),.int .i64 (r 3),.int .i64 (r 4),.int .i64 (r 5),.int .i64 (r 6),.int .i64 (r 7)],.agg #[.int .i64 (a 0),.int .i64 (a 1),.int .i64 (a 2),.int .i64 (a 3),.int .i64 (a 4),.int .i64 (a 5),.int .i64 (a 6),.int .i64 (a 7)]] w fun e w'=>e = .returned (.int .i64 (dotOf r a))∧Ext w w':=by
 have hin:In8 (fun i=>r i*a i) (-1000000000) 1000000000:=fun i hi=>by
  have h1:=hr i hi
  have h2:=ha i hi
  have:=mul_bnd (x:=r i) (y:=a i) (X:=1000) (Y:=1000000) (by omega) (by omega) (by omega) (by omega)
  simp only [Int.reduceMul] at this
  omega
 have hdb:=hide (sumTo_bound hin)
 replace hr:=hide hr
 replace ha:=hide ha
 clear hin
 go_enter Tryz.func101,Tryz.ntmps101
 go_wp2
 go_loopw [5,6] (fun s i wr=>∃ j:Nat,j≤8∧i = .int .i64 j∧s = .int .i64 (sumTo (fun i=>r i*a i) j)∧Hid (Blk wr w.heap.size 30 (c8 r)∧Blk wr (w.heap.size+1) 31 (c8 a)∧Ext w wr)) (fun _ i _=>8 - (intOf i).toNat)
 case atStart=>exact ⟨0,by omega,rfl,rfl,(Blk.new _ _ _).alloc _,Blk.new' _ _ (by simp),((Ext.refl _).alloc _).alloc _⟩
 case round =>
  obtain ⟨j,hj,rfl,rfl,hJ⟩:=hrel
  by_cases hj8:j<8
  ·have hd1 : decide ((j : Int) < 8) = true := by simp; omega
   have xr:=hJ.out.1.at8 hj8
   have xa:=hJ.out.2.1.at8 hj8
   have b1:=ha.out j hj8
   have b3:=hr.out j hj8
   have b4:=hdb.out j hj
   have hst:Hid (sumTo (fun i=>r i*a i) (j+1) = sumTo (fun i=>r i*a i) j+r j*a j):=rfl
   have b6:=mul_bnd (x:=r j) (y:=a j) (X:=1000) (Y:=1000000) (by omega) (by omega) (by omega) (by omega)
   generalize sumTo (fun i=>r i*a i) j = s at *
   generalize a j = x at *
   generalize r j = z at *
   simp only [Int.reduceMul] at b6
   have e2:IntKind.i64.wrap (z*x) = z*x:=IntWalk.i64_in _ (by omega)
   have e3:IntKind.i64.wrap (s+z*x) = s+z*x:=IntWalk.i64_in _ (by omega)
   go_wp2
   go_quiet (fail)
   clear e2 e3
   go_wp2
   exact ⟨⟨j+1,hj8,by simp,by rw [hst.out],hJ.out.1,hJ.out.2.1,hJ.out.2.2.drewN _⟩,by simp [intOf];omega⟩
  ·obtain rfl : j = 8 := by omega
   have hd1:decide (((8:Nat):Int)<8) = false:=by simp
   go_wp2
   go_ret
   exact ⟨rfl,hJ.out.2.2⟩
theorem dotOf_sub (r a b:Nat→Int):dotTo r a b 8 = dotOf r a - dotOf r b:=by
 have key:∀ k,sumTo (fun i=>r i*(a i - b i)) k = sumTo (fun i=>r i*a i) k - sumTo (fun i=>r i*b i) k:=by
  intro k
  induction k with
  | zero=>rfl
  | succ k ih=>simp only [sumTo];rw [ih,Int.mul_sub];omega
 exact key 8
set_option maxRecDepth 100000 in
set_option maxHeartbeats 1600000 in
theorem RCmp_any (v : Value) (R:List (Nat→Int)) (a b:Nat→Int) (w:World) (h:RowsAt .i64 30 w v R) (hR:∀ r∈R,In8 r (-1000) 1000) (ha:In8 a (-1000000) 1000000) (hb:In8 b (-1000000) 1000000) :
  Calls Tryz.prog 38 #[v,.agg #[.int .i64 (a 0),.int .i64 (a 1),.int .i64 (a 2),.int .i64 (a 3),.int .i64 (a 4),.int .i64 (a 5),.int .i64 (a 6),.int .i64 (a 7)],.agg #[.int .i64 (b 0),.int .i64 (b 1),.int .i64 (b 2),.int .i64 (b 3),.int .i64 (b 4),.int .i64 (b 5),.int .i64 (b 6),.int .i64 (b 7)]] w fun e w'=>e = .returned (.int .i64 (oCmp R a b))∧Ext w w':=by
 obtain ⟨A,c,rfl,hc,hm,hx⟩:=h.open_
 clear h
 have hlX:R.length≤9223372036854775807:=by omega
 clear hc hm
 replace hx:=hide hx
 replace hR:=hide hR
 have haB:=hide ha
 have hbB:=hide hb
 clear ha hb
 go_enter Tryz.func38,Tryz.ntmps38
 go_wp2
 go_loopw [7] (fun i wr=>∃ k:Nat,k≤R.length∧i = .int .i64 k∧Hid (cmpRows R a b = cmpRows (R.drop k) a b∧Blk wr w.heap.size 31 (c8 a)∧Blk wr (w.heap.size+1) 31 (c8 b)∧Ext w wr)) (fun i _=>R.length - (intOf i).toNat)
 case atStart=>exact ⟨0,by omega,rfl,rfl,(Blk.new _ _ _).alloc _,Blk.new' _ _ (by simp),((Ext.refl _).alloc _).alloc _⟩
 case round =>
  obtain ⟨k,hk,rfl,hI⟩:=hrel
  by_cases hlt:k<R.length
  ·obtain ⟨g, o, rfl, hgl, hcl⟩ := hx.out (by omega)
   replace hcl:=hide fun j (hj:j<8)=>hI.out.2.2.2.cellv (hcl k j hlt hj)
   have hrb:Hid (In8 (rowAt R k) (-1000) 1000):=hR.out _ (rowAt_mem hlt)
   have hdr:Hid (cmpRows (R.drop k) a b = if dotOf (rowAt R k) a<dotOf (rowAt R k) b then -1 else if dotOf (rowAt R k) b<dotOf (rowAt R k) a then 1 else cmpRows (R.drop (k+1)) a b):=by
    rw [drop_rowAt hlt,cmpRows,dotOf_sub,ite3];rfl
   generalize rowAt R k = r at *
   have x0:Hid (wr.cell? ⟨g,o+k*8,none⟩ = some (.int .i64 (r 0))):=hcl.out 0 (by omega)
   have x1:Hid (wr.cell? ⟨g,o+k*8+1,none⟩ = some (.int .i64 (r 1))):=hcl.out 1 (by omega)
   have x2:Hid (wr.cell? ⟨g,o+k*8+2,none⟩ = some (.int .i64 (r 2))):=hcl.out 2 (by omega)
   have x3:Hid (wr.cell? ⟨g,o+k*8+3,none⟩ = some (.int .i64 (r 3))):=hcl.out 3 (by omega)
   have x4:Hid (wr.cell? ⟨g,o+k*8+4,none⟩ = some (.int .i64 (r 4))):=hcl.out 4 (by omega)
   have x5:Hid (wr.cell? ⟨g,o+k*8+5,none⟩ = some (.int .i64 (r 5))):=hcl.out 5 (by omega)
   have x6:Hid (wr.cell? ⟨g,o+k*8+6,none⟩ = some (.int .i64 (r 6))):=hcl.out 6 (by omega)
   have x7:Hid (wr.cell? ⟨g,o+k*8+7,none⟩ = some (.int .i64 (r 7))):=hcl.out 7 (by omega)
   have hd1:decide (k<R.length) = true:=by simpa using hlt
   have i1:¬ R.length≤k:=by omega
   go_upto_region 4 with (fail)
   obtain ⟨G4,hG4⟩:∃ G4,G4 = w.heap.size:=⟨_,rfl⟩
   obtain ⟨G5,hG5⟩:∃ G5,G5 = w.heap.size+1:=⟨_,rfl⟩
   rw [← hG5] at hI ⊢
   rw [← hG4] at hI ⊢
   replace hG4:=hide hG4
   replace hG5:=hide hG5
   refine wp_region_v (by kernel_rfl) [[], [], [(16, 0), (17, 1)], [(18, 2)], [], [(19, 3), (20, 4)], [], [], [(22, 6), (23, 7)], [(24, 8)], [], [(25, 9), (26, 10)]] [[], [], [0, 1], [0, 1, 2], [], [0, 1, 2, 3, 4], [], [], [6, 7], [6, 7, 8], [], [0, 1, 2, 3, 4, 5, 6, 7, 8, 9, 10]]
    [fun v _=>v = .slice (some ⟨g,o,none⟩) R.length c,fun v _=>v = .int .i64 (k:Int),fun v _=>v = .pointer (some ⟨g,o+k*8,none⟩),fun v _=>v = .agg #[.int .i64 (r 0),.int .i64 (r 1),.int .i64 (r 2),.int .i64 (r 3),.int .i64 (r 4),.int .i64 (r 5),.int .i64 (r 6),.int .i64 (r 7)],fun v _=>v = .agg #[.int .i64 (a 0),.int .i64 (a 1),.int .i64 (a 2),.int .i64 (a 3),.int .i64 (a 4),.int .i64 (a 5),.int .i64 (a 6),.int .i64 (a 7)],fun v _=>v = .int .i64 (dotOf r a),fun v _=>v = .slice (some ⟨g,o,none⟩) R.length c,fun v _=>v = .int .i64 (k:Int),fun v _=>v = .pointer (some ⟨g,o+k*8,none⟩),fun v _=>v = .agg #[.int .i64 (r 0),.int .i64 (r 1),.int .i64 (r 2),.int .i64 (r 3),.int .i64 (r 4),.int .i64 (r 5),.int .i64 (r 6),.int .i64 (r 7)],fun v _=>v = .agg #[.int .i64 (b 0),.int .i64 (b 1),.int .i64 (b 2),.int .i64 (b 3),.int .i64 (b 4),.int .i64 (b 5),.int .i64 (b 6),.int .i64 (b 7)],fun v _=>v = .int .i64 (dotOf r b)]
    rfl (by kernel_rfl) (by kernel_rfl) ?stab ?steps ?fin
   case stab=>exact .cons (Stab.eq _) (.cons (Stab.eq _) (.cons (Stab.eq _) (.cons (Stab.eq _) (.cons (Stab.eq _) (.cons (Stab.eq _) (.cons (Stab.eq _) (.cons (Stab.eq _) (.cons (Stab.eq _) (.cons (Stab.eq _) (.cons (Stab.eq _) (.cons (Stab.eq _) .nil)))))))))))
   case steps =>
    refine .cons ?s0 (.cons ?s1 (.cons ?s2 (.cons ?s3 (.cons ?s4 (.cons ?s5 (.cons ?s6 (.cons ?s7 (.cons ?s8 (.cons ?s9 (.cons ?s10 (.cons ?s11 .nil)))))))))))
    case s0 =>
     intro w' ev hE hk ha hc hf
     have e0:ev (.tmp 0) = .slice (some ⟨g,o,none⟩) R.length c:=ha 0 (by decide)
     exact opStep_val (by simp [execOp,e0,go_sem]) rfl
    case s1 =>
     intro w' ev hE hk ha hc hf
     have e7:ev (.tmp 7) = .int .i64 (k:Int):=ha 7 (by decide)
     exact opStep_val (by simp [execOp,e7,go_sem]) rfl
    case s2 =>
     intro w' ev hE hk ha hc hf
     have e16:ev (.tmp 16) = .slice (some ⟨g,o,none⟩) R.length c:=hk.1 _ rfl
     have e17:ev (.tmp 17) = .int .i64 (k:Int):=hk.2.1 _ rfl
     exact opStep_val (by simp [execOp,e16,e17,i1,go_sem]) rfl
    case s3 =>
     intro w' ev hE hk ha hc hf
     have e18:ev (.tmp 18) = .pointer (some ⟨g,o+k*8,none⟩):=hk.1 _ rfl
     have c0:w'.cell? ⟨g,o+k*8,none⟩ = some (.int .i64 (r 0)):=hE.cellv x0.out
     have c1:w'.cell? ⟨g,o+k*8+1,none⟩ = some (.int .i64 (r 1)):=hE.cellv x1.out
     have c2:w'.cell? ⟨g,o+k*8+2,none⟩ = some (.int .i64 (r 2)):=hE.cellv x2.out
     have c3:w'.cell? ⟨g,o+k*8+3,none⟩ = some (.int .i64 (r 3)):=hE.cellv x3.out
     have c4:w'.cell? ⟨g,o+k*8+4,none⟩ = some (.int .i64 (r 4)):=hE.cellv x4.out
     have c5:w'.cell? ⟨g,o+k*8+5,none⟩ = some (.int .i64 (r 5)):=hE.cellv x5.out
     have c6:w'.cell? ⟨g,o+k*8+6,none⟩ = some (.int .i64 (r 6)):=hE.cellv x6.out
     have c7:w'.cell? ⟨g,o+k*8+7,none⟩ = some (.int .i64 (r 7)):=hE.cellv x7.out
     exact opStep_val (by simp [execOp,e18,c0,c1,c2,c3,c4,c5,c6,c7,go_sem]) rfl
    case s4 =>
     intro w' ev hE hk ha hc hf
     have e4:ev (.tmp 4) = .pointer (some ⟨G4,0,none⟩):=ha 4 (by decide)
     have c0:w'.cell? ⟨G4,0,none⟩ = some (.int .i64 (a 0)):=hE.cellv (hI.out.2.1.cell 0)
     have c1:w'.cell? ⟨G4,1,none⟩ = some (.int .i64 (a 1)):=hE.cellv (hI.out.2.1.cell 1)
     have c2:w'.cell? ⟨G4,2,none⟩ = some (.int .i64 (a 2)):=hE.cellv (hI.out.2.1.cell 2)
     have c3:w'.cell? ⟨G4,3,none⟩ = some (.int .i64 (a 3)):=hE.cellv (hI.out.2.1.cell 3)
     have c4:w'.cell? ⟨G4,4,none⟩ = some (.int .i64 (a 4)):=hE.cellv (hI.out.2.1.cell 4)
     have c5:w'.cell? ⟨G4,5,none⟩ = some (.int .i64 (a 5)):=hE.cellv (hI.out.2.1.cell 5)
     have c6:w'.cell? ⟨G4,6,none⟩ = some (.int .i64 (a 6)):=hE.cellv (hI.out.2.1.cell 6)
     have c7:w'.cell? ⟨G4,7,none⟩ = some (.int .i64 (a 7)):=hE.cellv (hI.out.2.1.cell 7)
     exact opStep_val (by simp [execOp,e4,c0,c1,c2,c3,c4,c5,c6,c7,go_sem]) rfl
    case s5 =>
     intro w' ev hE hk ha hc hf
     have e19:ev (.tmp 19) = .agg #[.int .i64 (r 0),.int .i64 (r 1),.int .i64 (r 2),.int .i64 (r 3),.int .i64 (r 4),.int .i64 (r 5),.int .i64 (r 6),.int .i64 (r 7)]:=hk.1 _ rfl
     have e20:ev (.tmp 20) = .agg #[.int .i64 (a 0),.int .i64 (a 1),.int .i64 (a 2),.int .i64 (a 3),.int .i64 (a 4),.int .i64 (a 5),.int .i64 (a 6),.int .i64 (a 7)]:=hk.2.1 _ rfl
     refine opStep_call (by simp [execOp,resolve,invoke,hf,e19,e20,go_sem]) (Rweight_any r a _ hrb.out haB.out) ?_
     rintro e w1 ⟨rfl,hE1⟩
     exact ⟨_,rfl,hE1,rfl⟩
    case s6 =>
     intro w' ev hE hk ha hc hf
     have e0:ev (.tmp 0) = .slice (some ⟨g,o,none⟩) R.length c:=ha 0 (by decide)
     exact opStep_val (by simp [execOp,e0,go_sem]) rfl
    case s7 =>
     intro w' ev hE hk ha hc hf
     have e7:ev (.tmp 7) = .int .i64 (k:Int):=ha 7 (by decide)
     exact opStep_val (by simp [execOp,e7,go_sem]) rfl
    case s8 =>
     intro w' ev hE hk ha hc hf
     have e22:ev (.tmp 22) = .slice (some ⟨g,o,none⟩) R.length c:=hk.1 _ rfl
     have e23:ev (.tmp 23) = .int .i64 (k:Int):=hk.2.1 _ rfl
     exact opStep_val (by simp [execOp,e22,e23,i1,go_sem]) rfl
    case s9 =>
     intro w' ev hE hk ha hc hf
     have e24:ev (.tmp 24) = .pointer (some ⟨g,o+k*8,none⟩):=hk.1 _ rfl
     have c0:w'.cell? ⟨g,o+k*8,none⟩ = some (.int .i64 (r 0)):=hE.cellv x0.out
     have c1:w'.cell? ⟨g,o+k*8+1,none⟩ = some (.int .i64 (r 1)):=hE.cellv x1.out
     have c2:w'.cell? ⟨g,o+k*8+2,none⟩ = some (.int .i64 (r 2)):=hE.cellv x2.out
     have c3:w'.cell? ⟨g,o+k*8+3,none⟩ = some (.int .i64 (r 3)):=hE.cellv x3.out
     have c4:w'.cell? ⟨g,o+k*8+4,none⟩ = some (.int .i64 (r 4)):=hE.cellv x4.out
     have c5:w'.cell? ⟨g,o+k*8+5,none⟩ = some (.int .i64 (r 5)):=hE.cellv x5.out
     have c6:w'.cell? ⟨g,o+k*8+6,none⟩ = some (.int .i64 (r 6)):=hE.cellv x6.out
     have c7:w'.cell? ⟨g,o+k*8+7,none⟩ = some (.int .i64 (r 7)):=hE.cellv x7.out
     exact opStep_val (by simp [execOp,e24,c0,c1,c2,c3,c4,c5,c6,c7,go_sem]) rfl
    case s10 =>
     intro w' ev hE hk ha hc hf
     have e5:ev (.tmp 5) = .pointer (some ⟨G5,0,none⟩):=ha 5 (by decide)
     have c0:w'.cell? ⟨G5,0,none⟩ = some (.int .i64 (b 0)):=hE.cellv (hI.out.2.2.1.cell 0)
     have c1:w'.cell? ⟨G5,1,none⟩ = some (.int .i64 (b 1)):=hE.cellv (hI.out.2.2.1.cell 1)
     have c2:w'.cell? ⟨G5,2,none⟩ = some (.int .i64 (b 2)):=hE.cellv (hI.out.2.2.1.cell 2)
     have c3:w'.cell? ⟨G5,3,none⟩ = some (.int .i64 (b 3)):=hE.cellv (hI.out.2.2.1.cell 3)
     have c4:w'.cell? ⟨G5,4,none⟩ = some (.int .i64 (b 4)):=hE.cellv (hI.out.2.2.1.cell 4)
     have c5:w'.cell? ⟨G5,5,none⟩ = some (.int .i64 (b 5)):=hE.cellv (hI.out.2.2.1.cell 5)
     have c6:w'.cell? ⟨G5,6,none⟩ = some (.int .i64 (b 6)):=hE.cellv (hI.out.2.2.1.cell 6)
     have c7:w'.cell? ⟨G5,7,none⟩ = some (.int .i64 (b 7)):=hE.cellv (hI.out.2.2.1.cell 7)
     exact opStep_val (by simp [execOp,e5,c0,c1,c2,c3,c4,c5,c6,c7,go_sem]) rfl
    case s11 =>
     intro w' ev hE hk ha hc hf
     have e25:ev (.tmp 25) = .agg #[.int .i64 (r 0),.int .i64 (r 1),.int .i64 (r 2),.int .i64 (r 3),.int .i64 (r 4),.int .i64 (r 5),.int .i64 (r 6),.int .i64 (r 7)]:=hk.1 _ rfl
     have e26:ev (.tmp 26) = .agg #[.int .i64 (b 0),.int .i64 (b 1),.int .i64 (b 2),.int .i64 (b 3),.int .i64 (b 4),.int .i64 (b 5),.int .i64 (b 6),.int .i64 (b 7)]:=hk.2.1 _ rfl
     refine opStep_call (by simp [execOp,resolve,invoke,hf,e25,e26,go_sem]) (Rweight_any r b _ hrb.out hbB.out) ?_
     rintro e w1 ⟨rfl,hE1⟩
     exact ⟨_,rfl,hE1,rfl⟩
   case fin =>
    intro gf w' hE hF
    have e5:=hF 5 _ rfl
    have e11:=hF 11 _ rfl
    simp only [List.length_cons,List.length_nil,Nat.reduceAdd,List.drop_succ_cons,List.drop_zero,List.take_succ_cons,List.take_zero,putG,Act.put,List.setIfInBounds_toArray,List.set_cons_succ,List.set_cons_zero,e5,e11]
    replace hE:=(Ext.refl wr).drew.trans hE
    have hI1:Hid (Blk w' G4 31 (c8 a)∧Blk w' G5 31 (c8 b)∧Ext w w'):=⟨hI.out.2.1.ext hE,hI.out.2.2.1.ext hE,hI.out.2.2.2.trans hE⟩
    have hI0:=hide hI.out.1
    obtain rfl:=hG4.out
    obtain rfl:=hG5.out
    clear hF e5 e11 hE hI hcl i1 x0 x1 x2 x3 x4 x5 x6 x7
    have hdr':=hdr.out
    generalize dotOf r a = x at *
    generalize dotOf r b = y at *
    by_cases h1:x<y
    ·rw [if_pos h1] at hdr'
     replace hdr':=hide hdr'
     clear hdr
     go_wp2
     go_ret
     exact ⟨by rw [oCmp,hI0.out,hdr'.out];rfl,hI1.out.2.2⟩
    ·rw [if_neg h1] at hdr'
     by_cases h2:y<x
     ·rw [if_pos h2] at hdr'
      replace hdr':=hide hdr'
      clear hdr
      go_wp2
      go_ret
      exact ⟨by rw [oCmp,hI0.out,hdr'.out];rfl,hI1.out.2.2⟩
     ·rw [if_neg h2] at hdr'
      replace hdr':=hide hdr'
      clear hdr
      go_wp2
      exact ⟨⟨k+1,hlt,by simp,by rw [hI0.out,hdr'.out],hI1.out.1,hI1.out.2.1,hI1.out.2.2⟩,by simp [intOf];omega⟩
  ·obtain rfl : k = R.length := by omega
   have hz:Hid (cmpRows R a b = 0):=by have:=hI.out.1;rw [List.drop_length] at this;exact this
   have hA:=hI.out.2.1
   have hB:=hI.out.2.2.1
   have q0:(wr).cell? ⟨w.heap.size,0,none⟩ = some (.int .i64 (a 0)):=(hA).cell 0
   have q1:(wr).cell? ⟨w.heap.size,1,none⟩ = some (.int .i64 (a 1)):=(hA).cell 1
   have q2:(wr).cell? ⟨w.heap.size,2,none⟩ = some (.int .i64 (a 2)):=(hA).cell 2
   have q3:(wr).cell? ⟨w.heap.size,3,none⟩ = some (.int .i64 (a 3)):=(hA).cell 3
   have q4:(wr).cell? ⟨w.heap.size,4,none⟩ = some (.int .i64 (a 4)):=(hA).cell 4
   have q5:(wr).cell? ⟨w.heap.size,5,none⟩ = some (.int .i64 (a 5)):=(hA).cell 5
   have q6:(wr).cell? ⟨w.heap.size,6,none⟩ = some (.int .i64 (a 6)):=(hA).cell 6
   have q7:(wr).cell? ⟨w.heap.size,7,none⟩ = some (.int .i64 (a 7)):=(hA).cell 7
   have s0:(wr).cell? ⟨w.heap.size+1,0,none⟩ = some (.int .i64 (b 0)):=(hB).cell 0
   have s1:(wr).cell? ⟨w.heap.size+1,1,none⟩ = some (.int .i64 (b 1)):=(hB).cell 1
   have s2:(wr).cell? ⟨w.heap.size+1,2,none⟩ = some (.int .i64 (b 2)):=(hB).cell 2
   have s3:(wr).cell? ⟨w.heap.size+1,3,none⟩ = some (.int .i64 (b 3)):=(hB).cell 3
   have s4:(wr).cell? ⟨w.heap.size+1,4,none⟩ = some (.int .i64 (b 4)):=(hB).cell 4
   have s5:(wr).cell? ⟨w.heap.size+1,5,none⟩ = some (.int .i64 (b 5)):=(hB).cell 5
   have s6:(wr).cell? ⟨w.heap.size+1,6,none⟩ = some (.int .i64 (b 6)):=(hB).cell 6
   have s7:(wr).cell? ⟨w.heap.size+1,7,none⟩ = some (.int .i64 (b 7)):=(hB).cell 7
   replace hA:=hide hA
   replace hB:=hide hB
   go_wp2_with fail
   refine (RmCmp_any a b _).mono ?_
   rintro e w1 ⟨rfl,hE1⟩
   replace hE1:=hide (hI.out.2.2.2.trans hE1)
   clear q0 q1 q2 q3 q4 q5 q6 q7 s0 s1 s2 s3 s4 s5 s6 s7
   go_wp2
   go_ret
   exact ⟨by rw [oCmp,hz.out];rfl,hE1.out⟩
end Go.Proofs.YteicdddphdomkaaGreat
namespace Go.Proofs.YteicdddphdomkaaGreat
open Go.RowKit
set_option maxRecDepth 100000 in
theorem RLex_any (w : World):Calls Tryz.prog 66 #[] w (RetOrder [] w):=by
 go_enter Tryz.func66,Tryz.ntmps66
 go_wp2
 go_ret
 exact ⟨_,_,rfl,OwnRows.blk (R:=[]) (Nat.le_refl _) (Blk.new _ _ _) rfl (by simp),(Ext.refl _).alloc _⟩
theorem rl_ones : (rl [onesOf 255]).toArray = #[.int .i64 1,.int .i64 1,.int .i64 1,.int .i64 1,.int .i64 1,.int .i64 1,.int .i64 1,.int .i64 1]:=rfl
set_option maxRecDepth 100000 in
theorem RGraded_any (w : World):Calls Tryz.prog 65 #[] w (RetOrder [onesOf 255] w):=by
 go_enter Tryz.func65,Tryz.ntmps65
 go_wp2
 go_ret
 exact ⟨_,_,rfl,OwnRows.blk (R:=[onesOf 255]) (Nat.le_refl _) (by rw [rl_ones];exact Blk.new _ _ _) rfl (by simp),(Ext.refl _).alloc _⟩
set_option maxRecDepth 100000 in
theorem Runit_any (i : Nat) (n:Int) (w:World) (hi:i<8) :
  Calls Tryz.prog 145 #[.int .i64 i,.int .i64 n] w fun e w'=>e = .returned (.agg #[.int .i64 (powOf i n 0),.int .i64 (powOf i n 1),.int .i64 (powOf i n 2),.int .i64 (powOf i n 3),.int .i64 (powOf i n 4),.int .i64 (powOf i n 5),.int .i64 (powOf i n 6),.int .i64 (powOf i n 7)])∧Ext w w':=by
 rcases lt8 hi with rfl | rfl | rfl | rfl | rfl | rfl | rfl | rfl
 all_goals
  go_enter Tryz.func145,Tryz.ntmps145
  go_wp2
  refine bodyPost_ret (v:=.agg (c8 (powOf _ n))) ?_ rfl ⟨rfl,?_⟩
  ·simp [results,Tryz.results145,go_sem,powOf,c8]
  ·exact ((Ext.refl _).alloc _).alloc _
theorem pow_minus (k : Nat):powOf k (-1) = minusOne k:=rfl
set_option maxRecDepth 100000 in
set_option maxHeartbeats 800000 in
theorem RReverse_any (w : World):Calls Tryz.prog 96 #[] w (RetOrder revRows w):=by
 go_enter Tryz.func96,Tryz.ntmps96
 go_wp2_with fail
 refine (RGraded_any _).mono ?_
 rintro e w1 ⟨A0,c0,rfl,hO0,hE1⟩
 replace hO0:=hide hO0
 replace hE1:=hide hE1
 go_wp2
 go_loopw [1,2] (fun v i wr=>∃ (k:Nat) (R:List (Nat→Int)) (A:Option Addr) (c:Nat),k≤7∧i = .int .i64 k∧v = .slice A R.length c∧Hid (R ++ revTail k = revRows∧OwnRows 30 w.heap.size wr (.slice A R.length c) R∧Ext w wr)) (fun _ i _=>(intOf i).toNat)
 case atStart=>exact ⟨7,[onesOf 255],_,_,by omega,rfl,rfl,rfl,hO0.out,hE1.out⟩
 case round =>
  obtain ⟨k,R,A,c,hk,rfl,rfl,hI⟩:=hrel
  clear hO0 hE1
  match k,hk,hI with
  | 0,hk,hI =>
   have e:R = revRows:=by have:=hI.out.1;rwa [revTail,List.append_nil] at this
   subst e
   go_wp2
   go_ret
   exact ⟨A,c,rfl,hI.out.2.1,hI.out.2.2⟩
  | k+1,hk,hI =>
   have hT:Hid (R ++ [minusOne (k+1)] ++ revTail k = revRows):=by have:=hI.out.1;rw [revTail] at this;rw [← this];show _ ++ _ ++ _ = _;rw [List.append_assoc];rfl
   have hl:R.length≤8:=by have:=congrArg List.length hI.out.1;rw [revRows_length,List.length_append,revTail_length] at this;omega
   have hd0:decide (0<k+1) = true:=by simp
   have hk2:((k+1:Nat):Int) - 1 = k:=by omega
   obtain ⟨n,hn⟩:∃ n,n = k+1:=⟨_,rfl⟩
   have hn7:n<8:=by omega
   have hn0:0<n:=by omega
   rw [← hn] at hT hd0 hk2 ⊢
   replace hn:=hide hn
   replace hk2:=hide hk2
   go_wp2_with fail
   refine (Runit_any n (-1) _ hn7).mono ?_
   rintro e w2 ⟨rfl,hE2⟩
   rw [pow_minus] at *
   obtain ⟨A',c',w',hrun,hO,hg⟩:=append_order (base:=w.heap.size) (w:=w2.alloc (.cells #[.int .i64 (minusOne n 0),.int .i64 (minusOne n 1),.int .i64 (minusOne n 2),.int .i64 (minusOne n 3),.int .i64 (minusOne n 4),.int .i64 (minusOne n 5),.int .i64 (minusOne n 6),.int .i64 (minusOne n 7)] 30)) (S:=[minusOne n]) (x:=.slice (some ⟨w2.heap.size,0,none⟩) 1 1)
    ((hI.out.2.1.ext hE2).ext ((Ext.refl _).alloc _)) (OwnRows.blk (R:=[minusOne n]) (c:=1) (base:=0) (g:=w2.heap.size) (Nat.zero_le _) (Blk.new _ _ _) rfl (by simp)).rows (by simp) (by simp;omega) (by have:=hI.out.2.2.size;have:=hE2.size;simp;omega)
   have hE3:Hid (Ext w w'):=((hI.out.2.2.trans hE2).alloc _).grown' hg hI.out.2.1.base_le
   replace hrun:=hide hrun
   replace hO:=hide hO
   clear hg
   go_wp2_with (at_builtin;go_loud (refine wpList_append_run rfl _ _ _ rfl _ _ rfl rfl hrun.out ?_))
   exact ⟨⟨k,R ++ [minusOne n],A',c',by omega,by rw [hk2.out],by simp,hT.out,by simpa using hO.out,hE3.out⟩,by have:=hn.out;simp [intOf];omega⟩
def OwnV (base : Nat) (v:Value) (w:World) (R:List (Nat→Int)):Prop:=∃ A c,v = .slice A R.length c∧OwnRows 30 base w (.slice A R.length c) R
theorem OwnV.ext {base : Nat} {v:Value} {w w':World} {R:List (Nat→Int)} (h:OwnV base v w R) (he:Ext w w'):OwnV base v w' R:=by
 obtain ⟨A,c,h1,h2⟩:=h
 exact ⟨A,c,h1,h2.ext he⟩
theorem Blk.skip8 {w : World} {g:Nat} {t:TypeId} {a:Nat→Int} {k:Nat} (h:Blk w g t (Go.Proofs.YteicdddphdomkaaGreat.c8 (upTo a k))) (hz:a k = 0):Blk w g t (Go.Proofs.YteicdddphdomkaaGreat.c8 (upTo a (k+1))):=by
 rw [c8_congr (b:=upTo a k) fun i _=>?_]
 ·exact h
 ·by_cases h1:i<k
  ·rw [upTo_lt h1,upTo_lt (by omega)]
  ·rw [upTo_ge h1]
   by_cases h2:i = k
   ·rw [h2,upTo_lt (by omega),hz]
   ·rw [upTo_ge (by omega)]
set_option maxRecDepth 100000 in
set_option maxHeartbeats 1600000 in
theorem REliminating_any (m : Nat) (w:World) (hm:m<256):Calls Tryz.prog 97 #[.int .u8 m] w (RetOrder (onesOf m :: revRows) w):=by
 go_enter Tryz.func97,Tryz.ntmps97
 go_wp2
 go_loopw [4] (fun i wr=>∃ k:Nat,k≤8∧i = .int .i64 k∧Hid (Blk wr w.heap.size 30 (c8 (upTo (onesOf m) k))∧Ext w wr)) (fun i _=>8 - (intOf i).toNat)
 case atStart=>exact ⟨0,by omega,rfl,Blk.new _ _ _,(Ext.refl _).alloc _⟩
 case round =>
  obtain ⟨k,hk,rfl,hI⟩:=hrel
  by_cases hlt:k<8
  ·have hd8 : decide ((k : Int) < 8) = true := by simp; omega
   go_wp2_with fail
   refine (In_any m k _ hm hlt).mono ?_
   rintro e _ ⟨rfl,rfl⟩
   have hob:=hide (onesOf_bit (m:=m) (i:=k))
   cases hb:m.testBit k with
   | true =>
    have h1:Hid (onesOf m k = 1):=by rw [hob.out,hb];rfl
    have hc1:=hI.out.1.at8 hlt
    have hz1:=hI.out.1.frozen k
    replace hb:=hide hb
    clear hob
    go_wp2
    exact ⟨⟨k+1,hlt,by simp,hI.out.1.up8 hlt h1.out.symm,hI.out.2.set (p:=⟨w.heap.size,k,none⟩) (Nat.le_refl _) _⟩,by simp [intOf];omega⟩
   | false =>
    have h1:Hid (onesOf m k = 0):=by rw [hob.out,hb];rfl
    replace hb:=hide hb
    clear hob
    go_wp2
    exact ⟨⟨k+1,hlt,by simp,hI.out.1.skip8 h1.out,hI.out.2⟩,by simp [intOf];omega⟩
  ·obtain rfl : k = 8 := by omega
   have hB:=hide hI.out.1.full8
   have hEw:=hide hI.out.2
   clear hI
   have hd8:decide (((8:Nat):Int)<8) = false:=by simp
   go_upto_region 7 with (fail)
   obtain ⟨B3,hB3⟩:∃ B3,B3 = w.heap.size:=⟨_,rfl⟩
   rw [← hB3] at hB ⊢
   replace hB3:=hide hB3
   refine wp_region_v (by kernel_rfl) [[], [(15, 0)], []] [[], [0], []]
    [fun v _=>v = .agg #[.int .i64 (onesOf m 0),.int .i64 (onesOf m 1),.int .i64 (onesOf m 2),.int .i64 (onesOf m 3),.int .i64 (onesOf m 4),.int .i64 (onesOf m 5),.int .i64 (onesOf m 6),.int .i64 (onesOf m 7)],fun v w'=>OwnV w.heap.size v w' [onesOf m],fun v w'=>OwnV w.heap.size v w' revRows]
    rfl (by kernel_rfl) (by kernel_rfl) ?stab ?steps ?fin
   case stab=>exact .cons (Stab.eq _) (.cons (fun _ _ _ he h=>h.ext he) (.cons (fun _ _ _ he h=>h.ext he) .nil))
   case steps =>
    refine .cons ?s0 (.cons ?s1 (.cons ?s2 .nil))
    case s0 =>
     intro w' ev hE hk ha hc hf
     have e3:ev (.tmp 3) = .pointer (some ⟨B3,0,none⟩):=ha 3 (by decide)
     have c0:w'.cell? ⟨B3,0,none⟩ = some (.int .i64 (onesOf m 0)):=hE.cellv (hB.out.cell 0)
     have c1:w'.cell? ⟨B3,1,none⟩ = some (.int .i64 (onesOf m 1)):=hE.cellv (hB.out.cell 1)
     have c2:w'.cell? ⟨B3,2,none⟩ = some (.int .i64 (onesOf m 2)):=hE.cellv (hB.out.cell 2)
     have c3:w'.cell? ⟨B3,3,none⟩ = some (.int .i64 (onesOf m 3)):=hE.cellv (hB.out.cell 3)
     have c4:w'.cell? ⟨B3,4,none⟩ = some (.int .i64 (onesOf m 4)):=hE.cellv (hB.out.cell 4)
     have c5:w'.cell? ⟨B3,5,none⟩ = some (.int .i64 (onesOf m 5)):=hE.cellv (hB.out.cell 5)
     have c6:w'.cell? ⟨B3,6,none⟩ = some (.int .i64 (onesOf m 6)):=hE.cellv (hB.out.cell 6)
     have c7:w'.cell? ⟨B3,7,none⟩ = some (.int .i64 (onesOf m 7)):=hE.cellv (hB.out.cell 7)
     exact opStep_val (by simp [execOp,e3,c0,c1,c2,c3,c4,c5,c6,c7,go_sem]) rfl
    case s1 =>
     intro w' ev hE hk ha hc hf
     have e15:ev (.tmp 15) = .agg #[.int .i64 (onesOf m 0),.int .i64 (onesOf m 1),.int .i64 (onesOf m 2),.int .i64 (onesOf m 3),.int .i64 (onesOf m 4),.int .i64 (onesOf m 5),.int .i64 (onesOf m 6),.int .i64 (onesOf m 7)]:=hk.1 _ rfl
     exact opStep_grow (by simp [execOp,e15,go_sem]) ((Ext.refl _).alloc _) ⟨_,_,rfl,OwnRows.blk (w:=w'.alloc (.cells #[.int .i64 (onesOf m 0),.int .i64 (onesOf m 1),.int .i64 (onesOf m 2),.int .i64 (onesOf m 3),.int .i64 (onesOf m 4),.int .i64 (onesOf m 5),.int .i64 (onesOf m 6),.int .i64 (onesOf m 7)] 30)) (R:=[onesOf m]) (Nat.le_trans hEw.out.size hE.size) (Blk.new _ _ _) rfl (by simp)⟩
    case s2 =>
     intro w' ev hE hk ha hc hf
     refine opStep_call (by simp [execOp,resolve,invoke,hf,go_sem]) (RReverse_any _) ?_
     rintro e w1 ⟨A,c,rfl,hO,hE1⟩
     exact ⟨_,rfl,hE1,⟨A,c,rfl,hO.base_mono (Nat.le_trans hEw.out.size hE.size)⟩⟩
   case fin =>
    intro gf w' hE hF
    have f1:=hF 1 _ rfl
    have f2:=hF 2 _ rfl
    obtain ⟨A1,c1,e1,hO1⟩:=f1
    obtain ⟨A2,c2,e2,hO2⟩:=f2
    simp only [List.length_cons,List.length_nil,Nat.reduceAdd,List.drop_succ_cons,List.drop_zero,List.take_succ_cons,List.take_zero,putG,Act.put,List.setIfInBounds_toArray,List.set_cons_succ,List.set_cons_zero,e1,e2]
    replace hE:=(Ext.refl wr).drew.trans hE
    have hsz:=hE.size
    have hsw:=hEw.out.size
    obtain ⟨A',c',w2,hrun,hO',hg⟩:=append_order (base:=w.heap.size) (w:=w') (v:=.slice A1 1 c1) (R:=[onesOf m]) (S:=revRows) (x:=.slice A2 revRows.length c2) hO1 hO2.rows (by rw [revRows_length];omega) (by rw [revRows_length];simp) (by omega)
    have hE4:Hid (Ext w w2):=(hEw.out.trans hE).grown' hg hO1.base_le
    replace hrun:=hide hrun
    replace hO':=hide hO'
    replace hO1:=hide hO1
    replace hO2:=hide hO2
    replace hE:=hide hE
    clear hg hF e1 e2
    go_wp2_with (at_builtin;go_loud (refine wpList_append_run rfl _ _ _ rfl _ _ rfl rfl hrun.out ?_))
    go_ret
    refine ⟨A',c',?_,?_,hE4.out⟩
    ·rw [List.length_cons,Nat.add_comm];rfl
    ·have:=hO'.out;rw [List.length_cons,Nat.add_comm];exact this
end Go.Proofs.YteicdddphdomkaaGreat
