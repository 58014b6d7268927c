/- Part 16 of the proof of squaresGram_holds. No condition. -/
import Derived.Test.YtnbfnoebjjdmnaaGreatGm4
import Derived.Test.YtnbfnoebjjdmnaaGreatGm8
set_option linter.unusedSimpArgs false
set_option linter.unusedVariables false
set_option maxRecDepth 100000
set_option maxHeartbeats 800000
namespace Go.Proofs.YtnbfnoebjjdmnaaGreat
open Go.RowKit
theorem SK(a b:Nat->Int)(k n:Nat):EK a b k (n+1)=if a k<b k then -1 else if b k<a k then 1 else EK a b (k+1) n:=by
 have hd:Im a b k=a k-b k:=rfl
 have h1:a k<b k↔Im a b k<0:=by rw [hd];omega
 have h2:b k<a k↔0<Im a b k:=by rw [hd];omega
 rw [If,If,CX]
 simp only [h1,h2]
 generalize Im a b k=d
 by_cases h:d=0
 .subst h;simp
 .rw [if_neg h]
  by_cases h3:d<0
  .simp [h3]
  .simp [h3,show 0<d by omega]
theorem WL(a b:Nat->Int)(w:World) :
  Calls Tryz.prog 43 #[.agg #[.int .i64 (a 0),.int .i64 (a 1),.int .i64 (a 2),.int .i64 (a 3),.int .i64 (a 4),.int .i64 (a 5),.int .i64 (a 6),.int .i64 (a 7)],.agg #[.int .i64 (b 0),.int .i64 (b 1),.int .i64 (b 2),.int .i64 (b 3),.int .i64 (b 4),.int .i64 (b 5),.int .i64 (b 6),.int .i64 (b 7)]] w λe w'=>e = .returned (.int .i64 (Fc a b))/\Ext w w':=by
 go_enter Tryz.func43,Tryz.ntmps43
 go_wp2
 go_loopw [5] (λi wr=>∃k:Nat,k<=8/\i = .int .i64 k/\Hid (Fc a b=EK a b k (8-k)/\Blk wr w.heap.size 60 (c8 a)/\Blk wr (w.heap.size+1) 60 (c8 b)/\Ext w wr)) (λi _=>8-(intOf i).toNat)
 case atStart=>exact ⟨0,by omega,rfl,rfl,(Blk.new _ _ _).alloc _,AW _ _ (by simp),((Ext.refl _).alloc _).alloc _⟩
 case round=>
  obtain ⟨k,hk,rfl,hI⟩:=hrel
  by_cases hlt:k<8
  .have hd1:decide ((k:Int)<8)=true:=by simp; omega
   have xa:=hI.out.2.1.at8 hlt
   have xb:=hI.out.2.2.1.at8 hlt
   have hs:Hid (EK a b k (8-k)=if a k<b k then -1 else if b k<a k then 1 else EK a b (k+1) (8-(k+1))):=by rw [show 8-k=(8-(k+1))+1 by omega];exact SK a b k _
   generalize a k=x at *
   generalize b k=y at *
   by_cases h1:x<y
   .have h:=hs.out
    rw [if_pos h1] at h
    replace h:=Ac h
    clear hs
    go_wp2
    go_quiet (fail)
    go_wp2
    go_ret
    exact ⟨by rw [hI.out.1,h.out];rfl,hI.out.2.2.2.drewN _⟩
   .by_cases h2:y<x
    .have h:=hs.out
     rw [if_neg h1,if_pos h2] at h
     replace h:=Ac h
     clear hs
     go_wp2
     go_quiet (fail)
     go_wp2
     go_quiet (fail)
     go_wp2
     go_ret
     exact ⟨by rw [hI.out.1,h.out];rfl,(hI.out.2.2.2.drewN _).drewN _⟩
    .have h:=hs.out
     rw [if_neg h1,if_neg h2] at h
     replace h:=Ac h
     clear hs
     go_wp2
     go_quiet (fail)
     go_wp2
     go_quiet (fail)
     go_wp2
     exact ⟨⟨k+1,hlt,by simp,by rw [hI.out.1,h.out],hI.out.2.1,hI.out.2.2.1,hI.out.2.2.2.drewN _⟩,by simp [intOf];omega⟩
  .obtain rfl:k=8:=by omega
   have hd1:decide (((8:Nat):Int)<8)=false:=by simp
   go_wp2
   go_ret
   exact ⟨by rw [hI.out.1];rfl,hI.out.2.2.2⟩
end Go.Proofs.YtnbfnoebjjdmnaaGreat
