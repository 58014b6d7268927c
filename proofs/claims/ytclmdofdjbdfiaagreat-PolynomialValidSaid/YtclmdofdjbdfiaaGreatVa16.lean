/- Part 16 of the proof of polynomialValid_holds. No condition. -/
import Derived.Test.YtclmdofdjbdfiaaGreatVa4
import Derived.Test.YtclmdofdjbdfiaaGreatVa8
set_option linter.unusedSimpArgs false
set_option linter.unusedVariables false
set_option maxRecDepth 100000
set_option maxHeartbeats 800000
namespace Go.Proofs.YtclmdofdjbdfiaaGreat
open Go.RowKit
theorem NT(a b:Nat->Int)(k n:Nat):DV a b k (n+1)=if a k<b k then -1 else if b k<a k then 1 else DV a b (k+1) n:=by
 have hd:GA a b k=a k-b k:=rfl
 have h1:a k<b k↔GA a b k<0:=by rw [hd];omega
 have h2:b k<a k↔0<GA a b k:=by rw [hd];omega
 rw [Gp,Gp,CK]
 simp only [h1,h2]
 generalize GA a b k=d
 by_cases h:d=0
 .subst h;simp
 .rw [if_neg h]
  by_cases h3:d<0
  .simp [h3]
  .simp [h3,show 0<d by omega]
theorem QO(a b:Nat->Int)(w:World) :
  Calls Tryz.prog 30 #[.agg #[.int .i64 (a 0),.int .i64 (a 1),.int .i64 (a 2),.int .i64 (a 3),.int .i64 (a 4),.int .i64 (a 5),.int .i64 (a 6),.int .i64 (a 7)],.agg #[.int .i64 (b 0),.int .i64 (b 1),.int .i64 (b 2),.int .i64 (b 3),.int .i64 (b 4),.int .i64 (b 5),.int .i64 (b 6),.int .i64 (b 7)]] w λe w'=>e = .returned (.int .i64 (DQ a b))/\Ext w w':=by
 go_enter Tryz.func30,Tryz.ntmps30
 go_wp2
 go_loopw [5] (λi wr=>∃k:Nat,k<=8/\i = .int .i64 k/\Hid (DQ a b=DV a b k (8-k)/\Blk wr w.heap.size 31 (c8 a)/\Blk wr (w.heap.size+1) 31 (c8 b)/\Ext w wr)) (λi _=>8-(intOf i).toNat)
 case atStart=>exact ⟨0,by omega,rfl,rfl,(Blk.new _ _ _).alloc _,AW _ _ (by simp),((Ext.refl _).alloc _).alloc _⟩
 case round=>
  obtain ⟨k,hk,rfl,hI⟩:=hrel
  by_cases hlt:k<8
  .have hd1:decide ((k:Int)<8)=true:=by simp; omega
   have xa:=hI.out.2.1.at8 hlt
   have xb:=hI.out.2.2.1.at8 hlt
   have hs:Hid (DV a b k (8-k)=if a k<b k then -1 else if b k<a k then 1 else DV a b (k+1) (8-(k+1))):=by rw [show 8-k=(8-(k+1))+1 by omega];exact NT a b k _
   generalize a k=x at *
   generalize b k=y at *
   by_cases h1:x<y
   .have h:=hs.out
    rw [if_pos h1] at h
    replace h:=Aa h
    clear hs
    go_wp2
    go_quiet (fail)
    go_wp2
    go_ret
    exact ⟨by rw [hI.out.1,h.out];rfl,hI.out.2.2.2.drewN _⟩
   .by_cases h2:y<x
    .have h:=hs.out
     rw [if_neg h1,if_pos h2] at h
     replace h:=Aa h
     clear hs
     go_wp2
     go_quiet (fail)
     go_wp2
     go_quiet (fail)
     go_wp2
     go_ret
     exact ⟨by rw [hI.out.1,h.out];rfl,(hI.out.2.2.2.drewN _).drewN _⟩
    .have h:=hs.out
     rw [if_neg h1,if_neg h2] at h
     replace h:=Aa h
     clear hs
     go_wp2
     go_quiet (fail)
     go_wp2
     go_quiet (fail)
     go_wp2
     exact ⟨⟨k+1,hlt,by simp,by rw [hI.out.1,h.out],hI.out.2.1,hI.out.2.2.1,hI.out.2.2.2.drewN _⟩,by simp [intOf];omega⟩
  .obtain rfl:k=8:=by omega
   have hd1:decide (((8:Nat):Int)<8)=false:=by simp
   go_wp2
   go_ret
   exact ⟨by rw [hI.out.1];rfl,hI.out.2.2.2⟩
theorem Sv(w:World):Calls Tryz.prog 19 #[] w (MK [] w):=by
 go_enter Tryz.func19,Tryz.ntmps19
 go_wp2
 go_ret
 exact ⟨_,_,rfl,OwnRows.blk (R:=[]) (Nat.le_refl _) (Blk.new _ _ _) rfl (by simp),(Ext.refl _).alloc _⟩
theorem Tb:(rl [EW 255]).toArray=#[.int .i64 1,.int .i64 1,.int .i64 1,.int .i64 1,.int .i64 1,.int .i64 1,.int .i64 1,.int .i64 1]:=rfl
theorem MS(w:World):Calls Tryz.prog 18 #[] w (MK [EW 255] w):=by
 go_enter Tryz.func18,Tryz.ntmps18
 go_wp2
 go_ret
 exact ⟨_,_,rfl,OwnRows.blk (R:=[EW 255]) (Nat.le_refl _) (by rw [Tb];exact Blk.new _ _ _) rfl (by simp),(Ext.refl _).alloc _⟩
end Go.Proofs.YtclmdofdjbdfiaaGreat
