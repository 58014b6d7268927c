/- Part 18 of the proof of polynomialLimits_holds. No condition. -/
import Derived.Test.YteicdddphdomkaaGreatLi17
set_option linter.unusedSimpArgs false
set_option linter.unusedVariables false
set_option maxRecDepth 100000
set_option maxHeartbeats 4000000
namespace Go.Proofs.YteicdddphdomkaaGreat
open Go.RowKit
structure RTm where
 b:Bool
 l:List Nat
 b':Bool
 l':List Nat
 m:Nat→Int
instance : Inhabited RTm:=⟨⟨false,[],false,[],fun _=>0⟩⟩
def rtC (r : RTm):List D:=rawC r.b r.l r.b' r.l' ++ monC r.m
def rtD (L : List RTm):D:=slD 33 12 (L.map rtC)
def rtAt (L : List RTm) (k:Nat):RTm:=L.getD k default
def tOk (r : RTm):Prop:=QOk r.b r.l r.b' r.l'∧r.l ≠ []∧In8 r.m 0 65535
def ValidL (L : List RTm):Prop:=∀ k,k<L.length→tOk (rtAt L k)∧(0<k→0<lex8 (rtAt L (k - 1)).m (rtAt L k).m)
def rtSz (L : List RTm):Prop:=∀ r∈L,Small r.l∧Small r.l'∧r.l.length≤1000000000∧r.l'.length≤1000000000
theorem rtAt_mem {L : List RTm} {k:Nat} (h:k<L.length):rtAt L k∈L:=by
 unfold rtAt
 rw [List.getD_eq_getElem?_getD,List.getElem?_eq_getElem h]
 exact List.getElem_mem h
open Classical in
theorem PValid_abs (L : List RTm) (hz:rtSz L) (hn:L.length≤1000000):Abs Tryz.prog 14 [rtD L] (ex (.bool (decide (ValidL L)))):=by
 refine Ab Tryz.func14 fun s0=>?_
 rw [Tryz.ntmps14]
 apply Y1;refine Wa ?_;apply Y0;apply AWp.seq;apply Y1;refine Wm ?_;refine Wq Qz.lenN ?_;refine Wm ?_;apply Y0;apply AWp.block
 refine AWp.loop (fun mz σ=>∃ k,k≤L.length∧mz = L.length - k∧(∀ j,j<k→tOk (rtAt L j)∧(0<j→0<lex8 (rtAt L (j - 1)).m (rtAt L j).m))∧σ = ⟨[(0,.d (rtD L)),(5,.d (rtD L)),(6,.d (ex (.int .i64 (L.length:Nat)))),(7,.d (ex (.int .i64 (k:Nat))))],[]⟩) ?le ⟨0,by omega,rfl,fun j hj=>absurd hj (Nat.not_lt_zero j),rfl⟩ ?round
 case le=>exact AS.le_of (by refine Yd ?_;refine Yd ?_;refine Yd ?_;refine Yd ?_;exact FrLe.nil) (by exact HpLe.nil)
 case round =>
  rintro mz _ ⟨k,hk,rfl,hall,rfl⟩
  by_cases hlt:k<L.length
  ·obtain ⟨z1,z2,z3,z4⟩:=hz _ (rtAt_mem hlt)
   have c1:=rValid_abs (rtAt L k).b (rtAt L k).l (rtAt L k).b' (rtAt L k).l' z1 z2 z3 z4
   by_cases hq:QOk (rtAt L k).b (rtAt L k).l (rtAt L k).b' (rtAt L k).l'
   ·rw [decide_eq_true hq] at c1
    obtain ⟨q,q1,q2,q3,q4⟩:=id hq
    have c2:=Sign_abs q
    have hcc:ratC q = rawC (rtAt L k).b (rtAt L k).l (rtAt L k).b' (rtAt L k).l':=by rw [q1,q2,q3,q4];rfl
    rw [hcc] at c2
    by_cases hz0:q = 0
    ·have hs:=num_sign0.2 hz0
     have hno:¬ ValidL L:=fun h=>(h k hlt).1.2.1 (by rw [q2,hz0];exact digs_zero)
     rw [decide_eq_false hno]
     apply Y1;refine Wq Qz.cmpT ?_;apply Y0;apply AWp.seq;refine Ct ?_;apply Ys;apply AWp.seq;apply AWp.block;apply Y1;refine Wm ?_;refine Wq Qz.indexN ?_;refine Wq Qz.loadEf ?_;refine AWs.al (tab_of rfl) rfl rfl rfl rfl rfl rfl ?_;refine Wa ?_;refine Sf ?_;apply Y0;apply AWp.seq;apply Y1;refine Wq Qz.fldP ?_;refine Wq Qz.ldD ?_;refine Wq (Qz.call (c1)) ?_;refine Wq Qz.not ?_;refine Wm ?_;refine Wg Qz.fldP ?_;refine Wg Qz.ldD ?_;refine Wg (Qz.call (c2)) ?_;refine Wg Qz.cmpT ?_;refine Wq Qz.pickF ?_;refine Wm ?_;refine Ws ?_;refine Ws ?_;refine Ws ?_;refine Ws ?_;refine Wq Qz.pickT ?_;apply Y0;refine Ct ?_;apply Y1;refine Wa ?_;apply Y0;apply AWp.ret;apply AThen.ret;apply ABlock.ret;apply AThen.ret;apply ALoop.ret;apply ABlock.ret;apply AThen.ret
     exact Yf
    ·have hs:q.num.sign ≠ 0:=fun e=>hz0 (num_sign0.1 e)
     by_cases hm:In8 (rtAt L k).m 0 65535
     ·have htk : tOk (rtAt L k) := ⟨hq, fun e => by rw [q2] at e; have := digs_length_zero.1 (by rw [e]; rfl); exact rnum_ne hz0 (by omega), hm⟩
      rcases Nat.eq_zero_or_pos k with h0 | h0
      ·subst h0
       apply Y1;refine Wq Qz.cmpT ?_;apply Y0;apply AWp.seq;refine Ct ?_;apply Ys;apply AWp.seq;apply AWp.block;apply Y1;refine Wm ?_;refine Wq Qz.indexN ?_;refine Wq Qz.loadEf ?_;refine AWs.al (tab_of rfl) rfl rfl rfl rfl rfl rfl ?_;refine Wa ?_;refine Sf ?_;apply Y0;apply AWp.seq;apply Y1;refine Wq Qz.fldP ?_;refine Wq Qz.ldD ?_;refine Wq (Qz.call (c1)) ?_;refine Wq Qz.not ?_;refine Wm ?_;refine Wg Qz.fldP ?_;refine Wg Qz.ldD ?_;refine Wg (Qz.call (c2)) ?_;refine Wg Qz.cmpF ?_;refine Wq Qz.pickF ?_;refine Wm ?_;refine Wg Qz.fldP ?_;refine Wg Qz.ldD ?_;refine Wg (Qz.call (mValidT_abs (rtAt L 0).m hm)) ?_;refine Wg Qz.not ?_;refine Wq Qz.pickF ?_;apply Y0;refine Cf ?_;apply Ys;apply AWp.seq
       refine AWp.dr' (DrawOk.self (by kernel_rfl)) [[],[(28,0)],[(29,1)],[],[],[(32,4)],[(31,3),(33,5)],[(34,6)],[(35,7)],[],[(37,9)],[(36,8),(38,10)],[(39,11)],[(30,2),(40,12)]] [[],[0],[0,1],[0,1,2],[0,1,2],[0,1,2,4],[0,1,2,3,4,5],[0,1,2,3,4,5,6],[0,1,2,3,4,5,6,7],[0,1,2],[0,1,2,9],[0,1,2,3,4,5,6,7,8,9,10],[0,1,2,3,4,5,6,7,8,9,10,11],[0,1,2,3,4,5,6,7,8,9,10,11,12]] rfl (by kernel_rfl) (by kernel_rfl) (by kernel_rfl) ?_
       refine Xq Qz.move ?_;refine Xq Qz.cmpF ?_;refine Xq Qz.move ?_;refine Xs ?_;refine Xs ?_;refine Xs ?_;refine Xs ?_;refine Xs ?_;refine Xs ?_;refine Xs ?_;refine Xs ?_;refine Xs ?_;refine Xs ?_;refine Xq Qz.pickF ?_;refine ⟨_,rfl,?_⟩
       apply Y0;refine Cf ?_;apply AWp.skip;apply ABlock.normal;apply Yn;apply AWp.region;refine Wq Qz.succ ?_;refine Wm ?_;apply AWl.nil
       refine ALoop.next (L.length - 1) (by omega) ⟨1,by omega,rfl,fun j hj=>by obtain rfl:j = 0:=(by omega);exact ⟨htk,fun h=>absurd h (Nat.lt_irrefl _)⟩,rfl⟩ ?_
       exact AS.le_of (by refine Yd ?_;refine Yd ?_;refine Yd ?_;refine Yd ?_;exact FrLe.nil) (by exact HpLe.nil)
      ·by_cases hc:0<lex8 (rtAt L (k - 1)).m (rtAt L k).m
       ·apply Y1;refine Wq Qz.cmpT ?_;apply Y0;apply AWp.seq;refine Ct ?_;apply Ys;apply AWp.seq;apply AWp.block;apply Y1;refine Wm ?_;refine Wq Qz.indexN ?_;refine Wq Qz.loadEf ?_;refine AWs.al (tab_of rfl) rfl rfl rfl rfl rfl rfl ?_;refine Wa ?_;refine Sf ?_;apply Y0;apply AWp.seq;apply Y1;refine Wq Qz.fldP ?_;refine Wq Qz.ldD ?_;refine Wq (Qz.call (c1)) ?_;refine Wq Qz.not ?_;refine Wm ?_;refine Wg Qz.fldP ?_;refine Wg Qz.ldD ?_;refine Wg (Qz.call (c2)) ?_;refine Wg Qz.cmpF ?_;refine Wq Qz.pickF ?_;refine Wm ?_;refine Wg Qz.fldP ?_;refine Wg Qz.ldD ?_;refine Wg (Qz.call (mValidT_abs (rtAt L k).m hm)) ?_;refine Wg Qz.not ?_;refine Wq Qz.pickF ?_;apply Y0;refine Cf ?_;apply Ys;apply AWp.seq
        refine AWp.dr' (DrawOk.self (by kernel_rfl)) [[],[(28,0)],[(29,1)],[],[],[(32,4)],[(31,3),(33,5)],[(34,6)],[(35,7)],[],[(37,9)],[(36,8),(38,10)],[(39,11)],[(30,2),(40,12)]] [[],[0],[0,1],[0,1,2],[0,1,2],[0,1,2,4],[0,1,2,3,4,5],[0,1,2,3,4,5,6],[0,1,2,3,4,5,6,7],[0,1,2],[0,1,2,9],[0,1,2,3,4,5,6,7,8,9,10],[0,1,2,3,4,5,6,7,8,9,10,11],[0,1,2,3,4,5,6,7,8,9,10,11,12]] rfl (by kernel_rfl) (by kernel_rfl) (by kernel_rfl) ?_
        refine Xq Qz.move ?_;refine Xq Qz.cmpT ?_;refine Xq Qz.move ?_;refine Xg Qz.move ?_;refine Xg Qz.move ?_;refine Xg Qz.pred ?_;refine Xg Qz.indexN ?_;refine Xg Qz.fldE ?_;refine Xg Qz.loadEf ?_;refine Xg Qz.fldP ?_;refine Xg Qz.ldD ?_;refine Xg (Qz.call (mCmp_abs (rtAt L (k - 1)).m (rtAt L k).m)) ?_;refine Xg Qz.cmpF ?_;refine Xq Qz.pickT ?_;refine ⟨_,rfl,?_⟩
        apply Y0;refine Cf ?_;apply AWp.skip;apply ABlock.normal;apply Yn;apply AWp.region;refine Wq Qz.succ ?_;refine Wm ?_;apply AWl.nil
        refine ALoop.next (L.length - (k+1)) (by omega) ⟨k+1,by omega,rfl,fun j hj=>?_,rfl⟩ ?_
        ·rcases Nat.lt_succ_iff_lt_or_eq.1 hj with h | rfl
         ·exact hall j h
         ·exact ⟨htk,fun _=>hc⟩
        ·exact AS.le_of (by refine Yd ?_;refine Yd ?_;refine Yd ?_;refine Yd ?_;exact FrLe.nil) (by exact HpLe.nil)
       ·have hno:¬ ValidL L:=fun h=>hc ((h k hlt).2 h0)
        rw [decide_eq_false hno]
        apply Y1;refine Wq Qz.cmpT ?_;apply Y0;apply AWp.seq;refine Ct ?_;apply Ys;apply AWp.seq;apply AWp.block;apply Y1;refine Wm ?_;refine Wq Qz.indexN ?_;refine Wq Qz.loadEf ?_;refine AWs.al (tab_of rfl) rfl rfl rfl rfl rfl rfl ?_;refine Wa ?_;refine Sf ?_;apply Y0;apply AWp.seq;apply Y1;refine Wq Qz.fldP ?_;refine Wq Qz.ldD ?_;refine Wq (Qz.call (c1)) ?_;refine Wq Qz.not ?_;refine Wm ?_;refine Wg Qz.fldP ?_;refine Wg Qz.ldD ?_;refine Wg (Qz.call (c2)) ?_;refine Wg Qz.cmpF ?_;refine Wq Qz.pickF ?_;refine Wm ?_;refine Wg Qz.fldP ?_;refine Wg Qz.ldD ?_;refine Wg (Qz.call (mValidT_abs (rtAt L k).m hm)) ?_;refine Wg Qz.not ?_;refine Wq Qz.pickF ?_;apply Y0;refine Cf ?_;apply Ys;apply AWp.seq
        refine AWp.dr' (DrawOk.self (by kernel_rfl)) [[],[(28,0)],[(29,1)],[],[],[(32,4)],[(31,3),(33,5)],[(34,6)],[(35,7)],[],[(37,9)],[(36,8),(38,10)],[(39,11)],[(30,2),(40,12)]] [[],[0],[0,1],[0,1,2],[0,1,2],[0,1,2,4],[0,1,2,3,4,5],[0,1,2,3,4,5,6],[0,1,2,3,4,5,6,7],[0,1,2],[0,1,2,9],[0,1,2,3,4,5,6,7,8,9,10],[0,1,2,3,4,5,6,7,8,9,10,11],[0,1,2,3,4,5,6,7,8,9,10,11,12]] rfl (by kernel_rfl) (by kernel_rfl) (by kernel_rfl) ?_
        refine Xq Qz.move ?_;refine Xq Qz.cmpT ?_;refine Xq Qz.move ?_;refine Xg Qz.move ?_;refine Xg Qz.move ?_;refine Xg Qz.pred ?_;refine Xg Qz.indexN ?_;refine Xg Qz.fldE ?_;refine Xg Qz.loadEf ?_;refine Xg Qz.fldP ?_;refine Xg Qz.ldD ?_;refine Xg (Qz.call (mCmp_abs (rtAt L (k - 1)).m (rtAt L k).m)) ?_;refine Xg Qz.cmpT ?_;refine Xq Qz.pickT ?_;refine ⟨_,rfl,?_⟩
        apply Y0;refine Ct ?_;apply Y1;refine Wa ?_;apply Y0;apply AWp.ret;apply ABlock.ret;apply AThen.ret;apply ALoop.ret;apply ABlock.ret;apply AThen.ret
        exact Yf
     ·have hno:¬ ValidL L:=fun h=>hm (h k hlt).1.2.2
      rw [decide_eq_false hno]
      apply Y1;refine Wq Qz.cmpT ?_;apply Y0;apply AWp.seq;refine Ct ?_;apply Ys;apply AWp.seq;apply AWp.block;apply Y1;refine Wm ?_;refine Wq Qz.indexN ?_;refine Wq Qz.loadEf ?_;refine AWs.al (tab_of rfl) rfl rfl rfl rfl rfl rfl ?_;refine Wa ?_;refine Sf ?_;apply Y0;apply AWp.seq;apply Y1;refine Wq Qz.fldP ?_;refine Wq Qz.ldD ?_;refine Wq (Qz.call (c1)) ?_;refine Wq Qz.not ?_;refine Wm ?_;refine Wg Qz.fldP ?_;refine Wg Qz.ldD ?_;refine Wg (Qz.call (c2)) ?_;refine Wg Qz.cmpF ?_;refine Wq Qz.pickF ?_;refine Wm ?_;refine Wg Qz.fldP ?_;refine Wg Qz.ldD ?_;refine Wg (Qz.call (mValidF_abs (rtAt L k).m hm)) ?_;refine Wg Qz.not ?_;refine Wq Qz.pickF ?_;apply Y0;refine Ct ?_;apply Y1;refine Wa ?_;apply Y0;apply AWp.ret;apply AThen.ret;apply ABlock.ret;apply AThen.ret;apply ALoop.ret;apply ABlock.ret;apply AThen.ret
      exact Yf
   ·rw [decide_eq_false hq] at c1
    have hno:¬ ValidL L:=fun h=>hq (h k hlt).1.1
    rw [decide_eq_false hno]
    apply Y1;refine Wq Qz.cmpT ?_;apply Y0;apply AWp.seq;refine Ct ?_;apply Ys;apply AWp.seq;apply AWp.block;apply Y1;refine Wm ?_;refine Wq Qz.indexN ?_;refine Wq Qz.loadEf ?_;refine AWs.al (tab_of rfl) rfl rfl rfl rfl rfl rfl ?_;refine Wa ?_;refine Sf ?_;apply Y0;apply AWp.seq;apply Y1;refine Wq Qz.fldP ?_;refine Wq Qz.ldD ?_;refine Wq (Qz.call (c1)) ?_;refine Wq Qz.not ?_;refine Wm ?_;refine Ws ?_;refine Ws ?_;refine Ws ?_;refine Ws ?_;refine Wq Qz.pickT ?_;refine Wm ?_;refine Ws ?_;refine Ws ?_;refine Ws ?_;refine Ws ?_;refine Wq Qz.pickT ?_;apply Y0;refine Ct ?_;apply Y1;refine Wa ?_;apply Y0;apply AWp.ret;apply AThen.ret;apply ABlock.ret;apply AThen.ret;apply ALoop.ret;apply ABlock.ret;apply AThen.ret
    exact Yf
  ·obtain rfl : k = L.length := by omega
   have hyes:ValidL L:=hall
   rw [decide_eq_true hyes]
   apply Y1;refine Wq Qz.cmpF ?_;apply Y0;apply AWp.seq;refine Cf ?_;apply AWp.exit;apply AThen.exit;apply ALoop.exit;apply ABlock.hit;apply Yn;apply Y1;refine Wa ?_;apply Y0;apply AWp.ret
   exact Yf
theorem RmValidT_abs (a : Nat→Int) (h:In8 a 0 65535):Abs Tryz.prog 72 [agD (monC a)] (ex (.bool true)):=by
 refine Ab Tryz.func72 fun s0=>?_
 rw [Tryz.ntmps72]
 apply Y1;refine AWs.bx (ao rfl) rfl rfl rfl rfl ?_;refine Wa ?_;apply Y0;apply AWp.seq;apply Y1;refine Wa ?_;apply Y0;apply AWp.block
 refine AWp.loop (fun mz σ=>∃ k,k≤8∧mz = 8 - k∧σ = ⟨[(1,.ptr 0 0),(2,.d (ex (.bool false))),(3,.d (ex (.int .i64 (k:Nat))))],[.var 31 ((monC a).map .d)]⟩) ?le ⟨0,by omega,rfl,rfl⟩ ?round
 case le=>exact AS.le_of (by refine Yp ?_;refine Yd ?_;refine Yd ?_;exact FrLe.nil) (by apply Yv;exact HpLe.nil)
 case round =>
  rintro mz _ ⟨k,hk,rfl,rfl⟩
  by_cases hlt:k<8
  ·have hk':=h k hlt
   apply AWp.seq;apply Y1;refine Wm ?_;refine Wq Qz.cmpT ?_;apply Y0;refine Ct ?_;apply Ys;apply AWp.seq;apply AWp.block;apply Y1;refine Wm ?_;refine Wq Qz.ixP ?_;refine Wq Qz.ldX1 ?_;refine Wq Qz.cmpF ?_;refine Wm ?_;refine Wg Qz.move ?_;refine Wg Qz.ixP ?_;refine Wg Qz.ldX1 ?_;refine Wg Qz.cmpF ?_;refine Wq Qz.pickF ?_;apply Y0;refine Cf ?_;apply AWp.skip;apply ABlock.normal;apply Yn;apply AWp.region;refine Wm ?_;refine Wq Qz.succ ?_;refine Wa ?_;apply AWl.nil
   refine ALoop.next (8 - (k+1)) (by omega) ⟨k+1,by omega,rfl,rfl⟩ ?_
   exact AS.le_of (by refine Yp ?_;refine Yd ?_;refine Yd ?_;exact FrLe.nil) (by apply Yv;exact HpLe.nil)
  ·obtain rfl : k = 8 := by omega
   apply AWp.seq;apply Y1;refine Wm ?_;refine Wq Qz.cmpF ?_;apply Y0;refine Cf ?_;apply AWp.exit;apply AThen.exit;apply ALoop.exit;apply ABlock.hit;apply Yn;apply Y1;refine Wa ?_;apply Y0;apply AWp.ret
   exact Yf
theorem RmValidF_abs (a : Nat→Int) (h:¬ In8 a 0 65535):Abs Tryz.prog 72 [agD (monC a)] (ex (.bool false)):=by
 refine Ab Tryz.func72 fun s0=>?_
 rw [Tryz.ntmps72]
 apply Y1;refine AWs.bx (ao rfl) rfl rfl rfl rfl ?_;refine Wa ?_;apply Y0;apply AWp.seq;apply Y1;refine Wa ?_;apply Y0;apply AWp.block
 refine AWp.loop (fun mz σ=>∃ k,k≤8∧mz = 8 - k∧(∀ j,j<k→0≤a j∧a j≤65535)∧σ = ⟨[(1,.ptr 0 0),(2,.d (ex (.bool false))),(3,.d (ex (.int .i64 (k:Nat))))],[.var 31 ((monC a).map .d)]⟩) ?le ⟨0,by omega,rfl,fun j hj=>absurd hj (Nat.not_lt_zero j),rfl⟩ ?round
 case le=>exact AS.le_of (by refine Yp ?_;refine Yd ?_;refine Yd ?_;exact FrLe.nil) (by apply Yv;exact HpLe.nil)
 case round =>
  rintro mz _ ⟨k,hk,rfl,hall,rfl⟩
  by_cases hlt:k<8
  ·rcases (show a k < 0 ∨ (0 ≤ a k ∧ 65535 < a k) ∨ (0 ≤ a k ∧ a k ≤ 65535) by omega) with h1 | ⟨h1, h2⟩ | ⟨h1, h2⟩
   ·apply AWp.seq;apply Y1;refine Wm ?_;refine Wq Qz.cmpT ?_;apply Y0;refine Ct ?_;apply Ys;apply AWp.seq;apply AWp.block;apply Y1;refine Wm ?_;refine Wq Qz.ixP ?_;refine Wq Qz.ldX1 ?_;refine Wq Qz.cmpT ?_;refine Wm ?_;refine Ws ?_;refine Ws ?_;refine Ws ?_;refine Ws ?_;refine Wq Qz.pickT ?_;apply Y0;refine Ct ?_;apply Y1;refine Wa ?_;apply Y0;apply AWp.ret;apply ABlock.ret;apply AThen.ret;apply ALoop.ret;apply ABlock.ret;apply AThen.ret
    exact Yf
   ·apply AWp.seq;apply Y1;refine Wm ?_;refine Wq Qz.cmpT ?_;apply Y0;refine Ct ?_;apply Ys;apply AWp.seq;apply AWp.block;apply Y1;refine Wm ?_;refine Wq Qz.ixP ?_;refine Wq Qz.ldX1 ?_;refine Wq Qz.cmpF ?_;refine Wm ?_;refine Wg Qz.move ?_;refine Wg Qz.ixP ?_;refine Wg Qz.ldX1 ?_;refine Wg Qz.cmpT ?_;refine Wq Qz.pickF ?_;apply Y0;refine Ct ?_;apply Y1;refine Wa ?_;apply Y0;apply AWp.ret;apply ABlock.ret;apply AThen.ret;apply ALoop.ret;apply ABlock.ret;apply AThen.ret
    exact Yf
   ·apply AWp.seq;apply Y1;refine Wm ?_;refine Wq Qz.cmpT ?_;apply Y0;refine Ct ?_;apply Ys;apply AWp.seq;apply AWp.block;apply Y1;refine Wm ?_;refine Wq Qz.ixP ?_;refine Wq Qz.ldX1 ?_;refine Wq Qz.cmpF ?_;refine Wm ?_;refine Wg Qz.move ?_;refine Wg Qz.ixP ?_;refine Wg Qz.ldX1 ?_;refine Wg Qz.cmpF ?_;refine Wq Qz.pickF ?_;apply Y0;refine Cf ?_;apply AWp.skip;apply ABlock.normal;apply Yn;apply AWp.region;refine Wm ?_;refine Wq Qz.succ ?_;refine Wa ?_;apply AWl.nil
    refine ALoop.next (8 - (k+1)) (by omega) ⟨k+1,by omega,rfl,fun j hj=>?_,rfl⟩ ?_
    ·rcases Nat.lt_succ_iff_lt_or_eq.1 hj with h3 | rfl
     ·exact hall j h3
     ·exact ⟨h1,h2⟩
    ·exact AS.le_of (by refine Yp ?_;refine Yd ?_;refine Yd ?_;exact FrLe.nil) (by apply Yv;exact HpLe.nil)
  ·obtain rfl : k = 8 := by omega
   exact absurd hall h
def ofT (t : Tm):RTm:=⟨decide (t.c.num<0),digs t.c.num.natAbs,decide ((t.c.den:Int)<0),digs (t.c.den:Int).natAbs,t.m⟩
theorem polD_rt (P : List Tm):polD P = rtD (P.map ofT):=by
 unfold polD rtD
 rw [List.map_map]
 rfl
theorem rtAt_of {P : List Tm} {k:Nat} (h:k<P.length):rtAt (P.map ofT) k = ofT (tAt P k):=by
 unfold rtAt tAt
 rw [List.getD_eq_getElem?_getD,List.getElem?_map,List.getElem?_eq_getElem h]
 simp [List.getD_eq_getElem?_getD,List.getElem?_eq_getElem h]
theorem ofT_ok (t : Tm):QOk (ofT t).b (ofT t).l (ofT t).b' (ofT t).l':=⟨t.c,rfl,rfl,rfl,rfl⟩
theorem dec_at {P : List Tm} (h:Dec P) {k:Nat} (hk:k<P.length) (h0:0<k):0<lx (tAt P (k - 1)).m (tAt P k).m:=by
 unfold Dec at h
 rw [List.pairwise_iff_getElem] at h
 have e:∀ k (hk:k<P.length),tAt P k = P[k]:=fun k hk=>by simp [tAt,List.getD_eq_getElem?_getD,List.getElem?_eq_getElem hk]
 rw [e _ hk,e (k - 1) (by omega)]
 exact h (k - 1) k (by omega) hk (by omega)
theorem valid_of {P : List Tm} (h:Canon P) (hi:PIn P 0 65535):ValidL (P.map ofT):=fun k hk=>by
 rw [List.length_map] at hk
 rw [rtAt_of hk]
 refine ⟨⟨ofT_ok _,fun e=>?_,hi _ (tAt_mem hk)⟩,fun h0=>?_⟩
 ·have h1:=h.2 _ (tAt_mem hk)
  have h2:digs (tAt P k).c.num.natAbs = []:=e
  have:=digs_length_zero.1 (show (digs (tAt P k).c.num.natAbs).length = 0 by rw [h2];rfl)
  exact rnum_ne h1 (by omega)
 ·rw [rtAt_of (by omega)]
  show 0<lex8 (tAt P (k - 1)).m (tAt P k).m
  rw [← lx_lex]
  exact dec_at h.1 hk h0
theorem rtSz_of {P : List Tm} {N:Nat} (h:PSz P N) (hN:N≤1000000000):rtSz (P.map ofT):=fun r hr=>by
 obtain ⟨t,ht,rfl⟩:=List.mem_map.1 hr
 have:=h t ht
 exact ⟨small_digs _,small_digs _,Nat.le_trans this.1 hN,Nat.le_trans this.2 hN⟩
open Classical in
theorem PValidP_abs (P : List Tm) (N:Nat) (h:Canon P) (hi:PIn P 0 65535) (hs:PSz P N) (hN:N≤1000000000) (hn:P.length≤1000000):Abs Tryz.prog 14 [polD P] (ex (.bool true)):=by
 have:=PValid_abs (P.map ofT) (rtSz_of hs hN) (by simpa using hn)
 rw [decide_eq_true (valid_of h hi)] at this
 rw [polD_rt]
 exact this
theorem RConst_abs (c : Rat):Abs Tryz.prog 63 [agD (ratC c)] (polD (constL c)):=by
 by_cases hz:c = 0
 ·have hs:=num_sign0.2 hz
  refine Ab Tryz.func63 fun s0=>?_
  rw [Tryz.ntmps63]
  apply Y1;refine AWs.bx (ao rfl) rfl rfl rfl rfl ?_;refine Wa ?_;apply Y0;apply AWp.seq;apply Y1;refine Wq Qz.ldD ?_;refine Wq (Qz.call (RSign_abs c)) ?_;refine Wq Qz.cmpT ?_;apply Y0;refine Ct ?_;apply Y1;refine Wa ?_;apply Y0;apply AWp.ret;apply AThen.ret
  exact Fin.ret (Rets.of1 (ResV.tmp rfl rfl) (D.le.trans D.le_nilP (D.le_pol (by rw [constL,if_pos hz]))))
 ·have hs:c.num.sign ≠ 0:=fun e=>hz (num_sign0.1 e)
  refine Ab Tryz.func63 fun s0=>?_
  rw [Tryz.ntmps63]
  apply Y1;refine AWs.bx (ao rfl) rfl rfl rfl rfl ?_;refine Wa ?_;apply Y0;apply AWp.seq;apply Y1;refine Wq Qz.ldD ?_;refine Wq (Qz.call (RSign_abs c)) ?_;refine Wq Qz.cmpF ?_;apply Y0;refine Cf ?_;apply Ys;apply Y1;refine Wq Qz.ldD ?_;(refine AWs.q rfl rfl ?_;(refine Bq.build (tab_of rfl) rfl rfl rfl ?_;(repeat ((first | refine ⟨_,PartOk.ag (ao rfl),?_⟩ | refine ⟨_,PartOk.one rfl (by first | exact One.ex_ rfl | exact One.sl | exact One.ep),?_⟩);refine ⟨_,rfl,?_⟩));refine ⟨_,rfl,?_⟩));(refine AWs.q rfl rfl ?_;refine ⟨_,Bq.slice1 (ao rfl) (tab_of rfl) (tab_of rfl) rfl rfl rfl rfl rfl,?_⟩);refine Wa ?_;apply Y0;apply AWp.ret
  exact Fin.ret (Rets.of1 (ResV.tmp rfl rfl) (D.le.of_eq (by rw [constL,if_neg hz];rfl)))
theorem RInt_abs (n : Int) (h0:-9223372036854775808≤n) (h1:n≤9223372036854775807):Abs Tryz.prog 64 [ex (.int .i64 n)] (polD (constL n)):=by
 refine Ab Tryz.func64 fun s0=>?_
 rw [Tryz.ntmps64]
 apply Y1;refine Wa ?_;apply Y0;apply Y1;refine Wm ?_;refine Wq (Qz.call (RWhole_abs n h0 h1)) ?_;refine Wq (Qz.call (RConst_abs n)) ?_;refine Wa ?_;apply Y0;apply AWp.ret
 exact Yf
theorem RVar_abs (i : Nat) (hi:i<8):Abs Tryz.prog 116 [ex (.int .i64 (i:Nat))] (tupD [polD [⟨1,unitE i⟩],ex (.int .i64 0)]):=by
 refine Ab Tryz.func116 fun s0=>?_
 rw [Tryz.ntmps116]
 apply Y1;refine Wa ?_;refine Wa ?_;apply Y0;apply AWp.seq;apply Y1;refine Wm ?_;refine Wq Qz.cmpF ?_;refine Wm ?_;refine Wg Qz.move ?_;refine Wg Qz.cmpF ?_;refine Wq Qz.pickF ?_;apply Y0;refine Cf ?_;apply Ys;apply Y1;(refine AWs.q rfl rfl ?_;(refine Bq.arr (tab_of rfl) (tab_of rfl) rfl rfl ?_;(repeat ((first | refine ⟨_,PartOk.ag (ao rfl),?_⟩ | refine ⟨_,PartOk.one rfl (by first | exact One.ex_ rfl | exact One.sl | exact One.ep),?_⟩);refine ⟨_,rfl,?_⟩));refine ⟨_,rfl,?_⟩));refine AWs.al (tab_of rfl) rfl rfl rfl rfl rfl rfl ?_;refine Sf ?_;apply Y0;apply Y1;refine Wm ?_;refine Wq Qz.ixP ?_
 refine AWl.fold 0 (monC fun _=>0) rfl rfl rfl ?_
 (refine AWs.stX1 (ao rfl) (ao rfl) rfl (tab_of rfl) (by first | exact One.ex_ rfl | exact One.sl | exact One.ep) (SetAt.mon (by first | omega | (simp;omega))) rfl ?_);apply Y0;apply AWp.seq
 refine AWp.dr' (DrawOk.self (by kernel_rfl)) [[],[],[(14,0),(15,1)],[(16,2)]] [[],[],[0,1],[0,1,2]] rfl (by kernel_rfl) (by kernel_rfl) (by kernel_rfl) ?_
 refine Xq (Qz.call (RWhole_abs 1 (by omega) (by omega))) ?_;refine Xq Qz.ldD ?_;(refine Hq rfl ?_;refine Bq.build (tab_of rfl) rfl rfl rfl ?_;(repeat ((first | refine ⟨_,PartOk.ag (ah rfl),?_⟩ | refine ⟨_,PartOk.one rfl (by first | exact One.ex_ rfl | exact One.sl | exact One.ep),?_⟩);refine ⟨_,rfl,?_⟩));refine ⟨_,rfl,?_⟩;refine ⟨_,rfl,?_⟩);(refine ⟨_,HStep.q rfl (Bq.slice1 (ah rfl) (tab_of rfl) (tab_of rfl) rfl rfl rfl rfl rfl),?_⟩;refine ⟨_,rfl,?_⟩);refine ⟨_,rfl,?_⟩
 refine Wa ?_;refine Wa ?_;apply Y0;apply AWp.ret
 exact Fin.ret (Rets.of2 (ResV.tmp rfl rfl) (ResV.tmp rfl rfl) (D.le.tup2 (D.le.refl _) (D.le.refl _)))
theorem RX_abs (i : Nat) (hi:i<8):Abs Tryz.prog 49 [ex (.int .i64 (i:Nat))] (polD [⟨1,unitE i⟩]):=by
 refine Ab Tryz.func49 fun s0=>?_
 rw [Tryz.ntmps49]
 apply Y1;refine Wa ?_;apply Y0;apply Y1;refine Wm ?_;refine Wq (Qz.call (RVar_abs i hi)) ?_;refine Wm ?_;refine Wq Qz.ext ?_;refine Wq Qz.ext ?_;refine Wa ?_;refine Wa ?_;apply Y0;apply Y1;refine Wm ?_;refine Wa ?_;apply Y0;apply AWp.ret
 exact Yf
def mixM (a b:Nat→Int) (k:Nat):Nat→Int:=fun j=>if j<k then a j+b j else a j
theorem mixM_set (a b:Nat→Int) (k:Nat):setM (mixM a b k) k (a k+b k) = mixM a b (k+1):=by
 funext j
 simp only [setM,mixM]
 rcases Nat.lt_trichotomy j k with h | h | h
 ·rw [if_neg (by omega),if_pos h,if_pos (by omega)]
 ·subst h;simp
 ·rw [if_neg (by omega),if_neg (by omega),if_neg (by omega)]
theorem mixM_at (a b:Nat→Int) (k:Nat):mixM a b k k = a k:=if_neg (Nat.lt_irrefl k)
theorem RmMul_abs (a b:Nat→Int) (ha:In8 a 0 65535) (hb:In8 b 0 65535) (h:In8 (add8 a b) 0 65535):Abs Tryz.prog 36 [agD (monC a),agD (monC b)] (tupD [agD (monC (add8 a b)),ex (.int .i64 0)]):=by
 refine Ab Tryz.func36 fun s0=>?_
 rw [Tryz.ntmps36]
 apply Y1;refine AWs.bx (ao rfl) rfl rfl rfl rfl ?_;refine AWs.bx (ao rfl) rfl rfl rfl rfl ?_;refine AWs.al (tab_of rfl) rfl rfl rfl rfl rfl rfl ?_;refine Wa ?_;apply Y0;apply AWp.seq;apply Y1;refine Wa ?_;apply Y0;apply AWp.block
 refine AWp.loop (fun mz σ=>∃ k,k≤8∧mz = 8 - k∧σ = ⟨[(2,.ptr 0 0),(3,.ptr 1 0),(4,.ptr 2 0),(6,.d (ex (.int .i64 (k:Nat))))],[.var 31 ((monC (mixM a b k)).map .d),.var 31 ((monC b).map .d),.var 31 ((monC fun _=>0).map .d)]⟩) ?le ⟨0,by omega,rfl,rfl⟩ ?round
 case le=>exact AS.le_of (by refine Yp ?_;refine Yp ?_;refine Yp ?_;refine Yd ?_;exact FrLe.nil) (by apply Yv;apply Yv;apply Yv;exact HpLe.nil)
 case round =>
  rintro mz _ ⟨k,hk,rfl,rfl⟩
  by_cases hlt:k<8
  ·have h1:=mixM_at a b k
   have h2:=ha k hlt
   have h3:=hb k hlt
   apply AWp.seq;apply Y1;refine Wm ?_;refine Wq Qz.cmpT ?_;apply Y0;refine Ct ?_;apply Ys;apply AWp.seq;apply AWp.block
   refine AWp.dr' (DrawOk.self (by kernel_rfl)) [[],[(11,0)],[(12,1)],[],[(14,3)],[(15,4)],[(13,2),(16,5)],[(11,0)]] [[],[0],[0,1],[],[3],[3,4],[0,1,2,3,4,5],[0,1,2,3,4,5,6]] rfl (by kernel_rfl) (by kernel_rfl) (by kernel_rfl) ?_
   refine Xq Qz.move ?_;refine Xq Qz.ixP ?_;refine Xq Qz.ldX1 ?_;refine Xq Qz.move ?_;refine Xq Qz.ixP ?_;refine Xq Qz.ldX1 ?_;refine Xq Qz.add ?_;refine Xq Qz.ixP ?_;refine ⟨_,rfl,?_⟩
   (refine AWs.stX1 (ao rfl) (ao rfl) rfl (tab_of rfl) (by first | exact One.ex_ rfl | exact One.sl | exact One.ep) (SetAt.mon (by first | omega | (simp;omega))) rfl ?_);apply AWl.nil;apply ABlock.normal;apply Yn;apply AWp.region;refine Wm ?_;refine Wq Qz.succ ?_;refine Wa ?_;apply AWl.nil
   refine ALoop.next (8 - (k+1)) (by omega) ⟨k+1,by omega,rfl,rfl⟩ ?_
   exact AS.le_of (by refine Yp ?_;refine Yp ?_;refine Yp ?_;refine Yd ?_;exact FrLe.nil) (by refine HpLe.cons (OwLe.varD (by rw [h1,mixM_set])) ?_;apply Yv;apply Yv;exact HpLe.nil)
  ·obtain rfl : k = 8 := by omega
   apply AWp.seq;apply Y1;refine Wm ?_;refine Wq Qz.cmpF ?_;apply Y0;refine Cf ?_;apply AWp.exit;apply AThen.exit;apply ALoop.exit;apply ABlock.hit;apply Yn;apply AWp.seq;apply Y1;refine Wq Qz.ldD ?_;refine Wq (Qz.call (RmValidT_abs (mixM a b 8) fun i hi=>by have:=h i hi;rw [mixM,if_pos hi];exact this)) ?_;refine Wq Qz.not ?_;apply Y0;refine Cf ?_;apply Ys;apply Y1;refine Wq Qz.ldD ?_;refine Sf ?_;refine Wa ?_;apply Y0;apply AWp.ret
   exact Fin.ret (Rets.of2 (ResV.cell rfl rfl (tab_of rfl) rfl rfl rfl) (ResV.tmp rfl rfl) (D.le.tup2 (D.le.refl _) (D.le.refl _)))
theorem RmMulF_abs (a b:Nat→Int) (ha:In8 a 0 65535) (hb:In8 b 0 65535) (h:¬ In8 (add8 a b) 0 65535):Abs Tryz.prog 36 [agD (monC a),agD (monC b)] (tupD [agD (monC fun _=>0),ex (.int .i64 2)]):=by
 refine Ab Tryz.func36 fun s0=>?_
 rw [Tryz.ntmps36]
 apply Y1;refine AWs.bx (ao rfl) rfl rfl rfl rfl ?_;refine AWs.bx (ao rfl) rfl rfl rfl rfl ?_;refine AWs.al (tab_of rfl) rfl rfl rfl rfl rfl rfl ?_;refine Wa ?_;apply Y0;apply AWp.seq;apply Y1;refine Wa ?_;apply Y0;apply AWp.block
 refine AWp.loop (fun mz σ=>∃ k,k≤8∧mz = 8 - k∧σ = ⟨[(2,.ptr 0 0),(3,.ptr 1 0),(4,.ptr 2 0),(6,.d (ex (.int .i64 (k:Nat))))],[.var 31 ((monC (mixM a b k)).map .d),.var 31 ((monC b).map .d),.var 31 ((monC fun _=>0).map .d)]⟩) ?le ⟨0,by omega,rfl,rfl⟩ ?round
 case le=>exact AS.le_of (by refine Yp ?_;refine Yp ?_;refine Yp ?_;refine Yd ?_;exact FrLe.nil) (by apply Yv;apply Yv;apply Yv;exact HpLe.nil)
 case round =>
  rintro mz _ ⟨k,hk,rfl,rfl⟩
  by_cases hlt:k<8
  ·have h1:=mixM_at a b k
   have h2:=ha k hlt
   have h3:=hb k hlt
   apply AWp.seq;apply Y1;refine Wm ?_;refine Wq Qz.cmpT ?_;apply Y0;refine Ct ?_;apply Ys;apply AWp.seq;apply AWp.block
   refine AWp.dr' (DrawOk.self (by kernel_rfl)) [[],[(11,0)],[(12,1)],[],[(14,3)],[(15,4)],[(13,2),(16,5)],[(11,0)]] [[],[0],[0,1],[],[3],[3,4],[0,1,2,3,4,5],[0,1,2,3,4,5,6]] rfl (by kernel_rfl) (by kernel_rfl) (by kernel_rfl) ?_
   refine Xq Qz.move ?_;refine Xq Qz.ixP ?_;refine Xq Qz.ldX1 ?_;refine Xq Qz.move ?_;refine Xq Qz.ixP ?_;refine Xq Qz.ldX1 ?_;refine Xq Qz.add ?_;refine Xq Qz.ixP ?_;refine ⟨_,rfl,?_⟩
   (refine AWs.stX1 (ao rfl) (ao rfl) rfl (tab_of rfl) (by first | exact One.ex_ rfl | exact One.sl | exact One.ep) (SetAt.mon (by first | omega | (simp;omega))) rfl ?_);apply AWl.nil;apply ABlock.normal;apply Yn;apply AWp.region;refine Wm ?_;refine Wq Qz.succ ?_;refine Wa ?_;apply AWl.nil
   refine ALoop.next (8 - (k+1)) (by omega) ⟨k+1,by omega,rfl,rfl⟩ ?_
   exact AS.le_of (by refine Yp ?_;refine Yp ?_;refine Yp ?_;refine Yd ?_;exact FrLe.nil) (by refine HpLe.cons (OwLe.varD (by rw [h1,mixM_set])) ?_;apply Yv;apply Yv;exact HpLe.nil)
  ·obtain rfl : k = 8 := by omega
   apply AWp.seq;apply Y1;refine Wm ?_;refine Wq Qz.cmpF ?_;apply Y0;refine Cf ?_;apply AWp.exit;apply AThen.exit;apply ALoop.exit;apply ABlock.hit;apply Yn;apply AWp.seq;apply Y1;refine Wq Qz.ldD ?_;refine Wq (Qz.call (RmValidF_abs (mixM a b 8) fun h'=>h fun i hi=>by have:=h' i hi;rw [mixM,if_pos hi] at this;exact this)) ?_;refine Wq Qz.not ?_;apply Y0;refine Ct ?_;apply Y1;(refine AWs.q rfl rfl ?_;(refine Bq.arr (tab_of rfl) (tab_of rfl) rfl rfl ?_;(repeat ((first | refine ⟨_,PartOk.ag (ao rfl),?_⟩ | refine ⟨_,PartOk.one rfl (by first | exact One.ex_ rfl | exact One.sl | exact One.ep),?_⟩);refine ⟨_,rfl,?_⟩));refine ⟨_,rfl,?_⟩));refine Sf ?_;refine Wa ?_;apply Y0;apply AWp.ret;apply AThen.ret
   exact Fin.ret (Rets.of2 (ResV.cell rfl rfl (tab_of rfl) rfl rfl rfl) (ResV.tmp rfl rfl) (D.le.tup2 (D.le.refl _) (D.le.refl _)))
theorem mMulXF_abs (a b:Nat→Int) (ha:In8 a 0 65535) (hb:In8 b 0 65535) (h:¬ In8 (add8 a b) 0 65535):Abs Tryz.prog 74 [agD (monC a),agD (monC b)] (tupD [agD (monC fun _=>0),ex (.int .i64 2)]):=by
 refine Ab Tryz.func74 fun s0=>?_
 rw [Tryz.ntmps74]
 apply Y1;refine AWs.bx (ao rfl) rfl rfl rfl rfl ?_;refine AWs.bx (ao rfl) rfl rfl rfl rfl ?_;refine AWs.al (tab_of rfl) rfl rfl rfl rfl rfl rfl ?_;refine Wa ?_;apply Y0;apply AWp.seq;apply Y1;refine Wm ?_;apply Y0;apply AWp.block
 refine AWp.loop (fun mz σ=>∃ k,k≤8∧mz = 8 - k∧σ = ⟨[(2,.ptr 0 0),(3,.ptr 1 0),(4,.ptr 2 0),(7,.d (ex (.int .i64 (k:Nat))))],[.var 31 ((monC (mixM a b k)).map .d),.var 31 ((monC b).map .d),.var 31 ((monC fun _=>0).map .d)]⟩) ?le ⟨0,by omega,rfl,rfl⟩ ?round
 case le=>exact AS.le_of (by refine Yp ?_;refine Yp ?_;refine Yp ?_;refine Yd ?_;exact FrLe.nil) (by apply Yv;apply Yv;apply Yv;exact HpLe.nil)
 case round =>
  rintro mz _ ⟨k,hk,rfl,rfl⟩
  by_cases hlt:k<8
  ·have h1:=mixM_at a b k
   have h2:=ha k hlt
   have h3:=hb k hlt
   apply Y1;refine Wq Qz.cmpT ?_;apply Y0;apply AWp.seq;refine Ct ?_;apply Ys;apply AWp.seq;apply AWp.block;apply Y1;refine Wm ?_;refine Wa ?_;apply Y0
   refine AWp.dr' (DrawOk.self (by kernel_rfl)) [[],[(10,0)],[(11,1)],[],[(13,3)],[(14,4)],[(12,2),(15,5)],[(10,0)]] [[],[0],[0,1],[],[3],[3,4],[0,1,2,3,4,5],[0,1,2,3,4,5,6]] rfl (by kernel_rfl) (by kernel_rfl) (by kernel_rfl) ?_
   refine Xq Qz.move ?_;refine Xq Qz.ixP ?_;refine Xq Qz.ldX1 ?_;refine Xq Qz.move ?_;refine Xq Qz.ixP ?_;refine Xq Qz.ldX1 ?_;refine Xq Qz.add ?_;refine Xq Qz.ixP ?_;refine ⟨_,rfl,?_⟩
   (refine AWs.stX1 (ao rfl) (ao rfl) rfl (tab_of rfl) (by first | exact One.ex_ rfl | exact One.sl | exact One.ep) (SetAt.mon (by first | omega | (simp;omega))) rfl ?_);apply AWl.nil;apply ABlock.normal;apply Yn;apply AWp.region;refine Wq Qz.succ ?_;refine Wm ?_;apply AWl.nil
   refine ALoop.next (8 - (k+1)) (by omega) ⟨k+1,by omega,rfl,rfl⟩ ?_
   exact AS.le_of (by refine Yp ?_;refine Yp ?_;refine Yp ?_;refine Yd ?_;exact FrLe.nil) (by refine HpLe.cons (OwLe.varD (by rw [h1,mixM_set])) ?_;apply Yv;apply Yv;exact HpLe.nil)
  ·obtain rfl : k = 8 := by omega
   apply Y1;refine Wq Qz.cmpF ?_;apply Y0;apply AWp.seq;refine Cf ?_;apply AWp.exit;apply AThen.exit;apply ALoop.exit;apply ABlock.hit;apply Yn;apply AWp.seq;apply Y1;refine Wq Qz.ldD ?_;refine Wq (Qz.call (mValidF_abs (mixM a b 8) fun h'=>h fun i hi=>by have:=h' i hi;rw [mixM,if_pos hi] at this;exact this)) ?_;refine Wq Qz.not ?_;apply Y0;refine Ct ?_;apply Y1;(refine AWs.q rfl rfl ?_;(refine Bq.arr (tab_of rfl) (tab_of rfl) rfl rfl ?_;(repeat ((first | refine ⟨_,PartOk.ag (ao rfl),?_⟩ | refine ⟨_,PartOk.one rfl (by first | exact One.ex_ rfl | exact One.sl | exact One.ep),?_⟩);refine ⟨_,rfl,?_⟩));refine ⟨_,rfl,?_⟩));refine Sf ?_;refine Wa ?_;apply Y0;apply AWp.ret;apply AThen.ret
   exact Fin.ret (Rets.of2 (ResV.cell rfl rfl (tab_of rfl) rfl rfl rfl) (ResV.tmp rfl rfl) (D.le.tup2 (D.le.refl _) (D.le.refl _)))
theorem mrg_gt {s t:Tm} {P Q:List Tm} (h:lx s.m t.m = 1):mrg (s :: P) (t :: Q) = s :: mrg P (t :: Q):=by
 rw [mrg,if_pos (show 0<lx s.m t.m by omega)]
theorem mrg_lt {s t:Tm} {P Q:List Tm} (h:lx s.m t.m = -1):mrg (s :: P) (t :: Q) = t :: mrg (s :: P) Q:=by
 rw [mrg,if_neg (show ¬ 0<lx s.m t.m by omega),if_pos (show lx s.m t.m<0 by omega)]
theorem mrg_eq {s t:Tm} {P Q:List Tm} (h:lx s.m t.m = 0):mrg (s :: P) (t :: Q) = if s.c+t.c = 0 then mrg P Q else ⟨s.c+t.c,s.m⟩ :: mrg P Q:=by
 rw [mrg,if_neg (show ¬ 0<lx s.m t.m by omega),if_neg (show ¬ lx s.m t.m<0 by omega)]
theorem nil_mrg (Q : List Tm):mrg [] Q = Q:=by rw [mrg]
theorem RAdd_pol (P Q:List Tm) (N M:Nat) (hP:PSz P N) (hQ:PSz Q M) (hNM:N+M+1≤4398046511103) (hn:P.length+Q.length≤100000):Abs Tryz.prog 56 [polD P,polD Q] (polD (mrg P Q)):=by
 refine Ab Tryz.func56 fun s0=>?_
 rw [Tryz.ntmps56]
 apply Y1;refine Wa ?_;apply Y0;apply Y1;refine AWs.b0 (tab_of rfl) (tab_of rfl) rfl rfl rfl rfl rfl ?_;refine Wa ?_;apply Y0;apply Y1;refine Wa ?_;refine Wa ?_;apply Y0;apply AWp.seq;apply AWp.block
 refine AWp.loop (fun mz σ=>∃ (i k:Nat) (R:List Tm),i≤P.length∧k≤Q.length∧R ++ mrg (P.drop i) (Q.drop k) = mrg P Q∧R.length≤i+k∧mz = (P.length - i)+(Q.length - k)∧σ = ⟨[(0,.d (polD P)),(1,.d (polD Q)),(5,.own 0),(6,.d (ex (.int .i64 (i:Nat)))),(7,.d (ex (.int .i64 (k:Nat))))],[.row 33 12 (R.map tmC)]⟩) ?le ⟨0,0,[],by omega,by omega,rfl,by simp,rfl,rfl⟩ ?round
 case le=>exact AS.le_of (by refine Yd ?_;refine Yd ?_;refine FrLe.cons rfl (AVle.own rfl) ?_;refine Yd ?_;refine Yd ?_;exact FrLe.nil) (by apply Yr;exact HpLe.nil)
 case round =>
  rintro mz _ ⟨i,k,R,hi,hk,heq,hl,rfl,rfl⟩
  by_cases hip:i<P.length
  ·have hdP:=drop_tAt hip
   by_cases hkq:k<Q.length
   ·have hdQ:=drop_tAt hkq
    rw [hdP,hdQ] at heq
    have hs:=hP _ (tAt_mem hip)
    have ht:=hQ _ (tAt_mem hkq)
    rcases lx_val (tAt P i).m (tAt Q k).m with hc | hc | hc
    ·have hc' : lex8 (tAt P i).m (tAt Q k).m = -1 := by rw [← lx_lex]; exact hc
     apply AWp.seq;apply Y1;refine Wm ?_;refine Wm ?_;refine Wq Qz.lenN ?_;refine Wq Qz.cmpT ?_;refine Wm ?_;refine Ws ?_;refine Ws ?_;refine Ws ?_;refine Ws ?_;refine Wq Qz.pickT ?_;apply Y0;refine Ct ?_;apply Ys;apply AWp.block;apply AWp.seq;apply AWp.seq
     refine AWp.dr' (DrawOk.self (by kernel_rfl)) [[],[],[(21,1)],[(20,0),(22,2)],[(23,3)],[],[],[(26,6)],[(25,5),(27,7)],[(28,8)],[],[],[(30,10),(31,11)],[(32,12)],[(33,13)],[],[],[(35,15),(36,16)],[(37,17)],[(38,18)],[(34,14),(39,19)],[(40,20)],[(29,9),(41,21)],[(24,4),(42,22)]] [[],[],[1],[0,1,2],[0,1,2,3],[0,1,2,3,4],[0,1,2,3,4],[0,1,2,3,4,6],[0,1,2,3,4,5,6,7],[0,1,2,3,4,5,6,7,8],[0,1,2,3,4,5,6,7,8,9],[0,1,2,3,4,5,6,7,8,9],[0,1,2,3,4,5,6,7,8,9,10,11],[0,1,2,3,4,5,6,7,8,9,10,11,12],[0,1,2,3,4,5,6,7,8,9,10,11,12,13],[0,1,2,3,4,5,6,7,8,9],[0,1,2,3,4,5,6,7,8,9],[0,1,2,3,4,5,6,7,8,9,15,16],[0,1,2,3,4,5,6,7,8,9,15,16,17],[0,1,2,3,4,5,6,7,8,9,15,16,17,18],[0,1,2,3,4,5,6,7,8,9,10,11,12,13,14,15,16,17,18,19],[0,1,2,3,4,5,6,7,8,9,10,11,12,13,14,15,16,17,18,19,20],[0,1,2,3,4,5,6,7,8,9,10,11,12,13,14,15,16,17,18,19,20,21],[0,1,2,3,4,5,6,7,8,9,10,11,12,13,14,15,16,17,18,19,20,21,22]] rfl (by kernel_rfl) (by kernel_rfl) (by kernel_rfl) ?_
     refine Xq Qz.move ?_;refine Xq Qz.move ?_;refine Xq Qz.lenN ?_;refine Xq Qz.cmpF ?_;refine Xq Qz.move ?_;refine Xg Qz.move ?_;refine Xg Qz.move ?_;refine Xg Qz.lenN ?_;refine Xg Qz.cmpT ?_;refine Xg Qz.move ?_;refine Xg Qz.move ?_;refine Xg Qz.move ?_;refine Xg Qz.indexN ?_;refine Xg Qz.fldE ?_;refine Xg Qz.loadEf ?_;refine Xg Qz.move ?_;refine Xg Qz.move ?_;refine Xg Qz.indexN ?_;refine Xg Qz.fldE ?_;refine Xg Qz.loadEf ?_;refine Xg (Qz.call (RmCmp_abs (tAt P i).m (tAt Q k).m)) ?_;refine Xg Qz.cmpF ?_;refine Xg Qz.pickT ?_;refine Xq Qz.pickF ?_;refine ⟨_,rfl,?_⟩
     apply Y0;refine Cf ?_;apply Ys;apply AWp.seq;apply AWp.seq
     refine AWp.dr' (DrawOk.self (by kernel_rfl)) [[],[],[(54,1)],[(53,0),(55,2)],[(56,3)],[],[],[(58,5),(59,6)],[(60,7)],[(61,8)],[],[],[(63,10),(64,11)],[(65,12)],[(66,13)],[(62,9),(67,14)],[(68,15)],[(57,4),(69,16)]] [[],[],[1],[0,1,2],[0,1,2,3],[0,1,2,3,4],[0,1,2,3,4],[0,1,2,3,4,5,6],[0,1,2,3,4,5,6,7],[0,1,2,3,4,5,6,7,8],[0,1,2,3,4],[0,1,2,3,4],[0,1,2,3,4,10,11],[0,1,2,3,4,10,11,12],[0,1,2,3,4,10,11,12,13],[0,1,2,3,4,5,6,7,8,9,10,11,12,13,14],[0,1,2,3,4,5,6,7,8,9,10,11,12,13,14,15],[0,1,2,3,4,5,6,7,8,9,10,11,12,13,14,15,16]] rfl (by kernel_rfl) (by kernel_rfl) (by kernel_rfl) ?_
     refine Xq Qz.move ?_;refine Xq Qz.move ?_;refine Xq Qz.lenN ?_;refine Xq Qz.cmpF ?_;refine Xq Qz.move ?_;refine Xg Qz.move ?_;refine Xg Qz.move ?_;refine Xg Qz.indexN ?_;refine Xg Qz.fldE ?_;refine Xg Qz.loadEf ?_;refine Xg Qz.move ?_;refine Xg Qz.move ?_;refine Xg Qz.indexN ?_;refine Xg Qz.fldE ?_;refine Xg Qz.loadEf ?_;refine Xg (Qz.call (RmCmp_abs (tAt P i).m (tAt Q k).m)) ?_;refine Xg Qz.cmpT ?_;refine Xq Qz.pickF ?_;refine ⟨_,rfl,?_⟩
     apply Y0;refine Ct ?_;apply Y1;refine Wm ?_;refine Wm ?_;refine Wm ?_;refine Wq Qz.indexN ?_;refine Wq Qz.loadEf ?_;(refine AWs.q rfl rfl ?_;refine ⟨_,Bq.slice1 (ao rfl) (tab_of rfl) (tab_of rfl) rfl rfl rfl rfl rfl,?_⟩);(refine AWs.app (ao rfl) rfl rfl (tab_of rfl) (tab_of rfl) rfl rfl (by simp;omega) (by simp;omega) rfl (by first | ((repeat (first | exact PlainHp.nil | refine PlainHp.var ?_ | refine PlainHp.row ?_ | refine PlainHp.dead ?_));done) | fail) rfl ?_);refine Wa ?_;apply Y0;apply Y1;refine Wm ?_;refine Wq Qz.succ ?_;refine Wa ?_;apply Y0;apply AWp.exit;apply AThen.exit;apply ABlock.hit
     refine ALoop.next ((P.length - i)+(Q.length - (k+1))) (by omega) ⟨i,k+1,R ++ [tAt Q k],by omega,by omega,?_,by simp;omega,rfl,rfl⟩ ?_
     ·rw [mrg_lt hc] at heq
      rw [← heq,hdP];simp
     ·exact AS.le_of (by refine Yd ?_;refine Yd ?_;refine FrLe.cons rfl (AVle.own rfl) ?_;refine Yd ?_;refine Yd ?_;exact FrLe.nil) (by refine HpLe.cons (OwLe.row (map_snoc tmC R (tAt Q k))) ?_;exact HpLe.nil)
    ·have hc' : lex8 (tAt P i).m (tAt Q k).m = 0 := by rw [← lx_lex]; exact hc
     by_cases hz:(tAt P i).c+(tAt Q k).c = 0
     ·have hsg:=num_sign0.2 hz
      apply AWp.seq;apply Y1;refine Wm ?_;refine Wm ?_;refine Wq Qz.lenN ?_;refine Wq Qz.cmpT ?_;refine Wm ?_;refine Ws ?_;refine Ws ?_;refine Ws ?_;refine Ws ?_;refine Wq Qz.pickT ?_;apply Y0;refine Ct ?_;apply Ys;apply AWp.block;apply AWp.seq;apply AWp.seq
      refine AWp.dr' (DrawOk.self (by kernel_rfl)) [[],[],[(21,1)],[(20,0),(22,2)],[(23,3)],[],[],[(26,6)],[(25,5),(27,7)],[(28,8)],[],[],[(30,10),(31,11)],[(32,12)],[(33,13)],[],[],[(35,15),(36,16)],[(37,17)],[(38,18)],[(34,14),(39,19)],[(40,20)],[(29,9),(41,21)],[(24,4),(42,22)]] [[],[],[1],[0,1,2],[0,1,2,3],[0,1,2,3,4],[0,1,2,3,4],[0,1,2,3,4,6],[0,1,2,3,4,5,6,7],[0,1,2,3,4,5,6,7,8],[0,1,2,3,4,5,6,7,8,9],[0,1,2,3,4,5,6,7,8,9],[0,1,2,3,4,5,6,7,8,9,10,11],[0,1,2,3,4,5,6,7,8,9,10,11,12],[0,1,2,3,4,5,6,7,8,9,10,11,12,13],[0,1,2,3,4,5,6,7,8,9],[0,1,2,3,4,5,6,7,8,9],[0,1,2,3,4,5,6,7,8,9,15,16],[0,1,2,3,4,5,6,7,8,9,15,16,17],[0,1,2,3,4,5,6,7,8,9,15,16,17,18],[0,1,2,3,4,5,6,7,8,9,10,11,12,13,14,15,16,17,18,19],[0,1,2,3,4,5,6,7,8,9,10,11,12,13,14,15,16,17,18,19,20],[0,1,2,3,4,5,6,7,8,9,10,11,12,13,14,15,16,17,18,19,20,21],[0,1,2,3,4,5,6,7,8,9,10,11,12,13,14,15,16,17,18,19,20,21,22]] rfl (by kernel_rfl) (by kernel_rfl) (by kernel_rfl) ?_
      refine Xq Qz.move ?_;refine Xq Qz.move ?_;refine Xq Qz.lenN ?_;refine Xq Qz.cmpF ?_;refine Xq Qz.move ?_;refine Xg Qz.move ?_;refine Xg Qz.move ?_;refine Xg Qz.lenN ?_;refine Xg Qz.cmpT ?_;refine Xg Qz.move ?_;refine Xg Qz.move ?_;refine Xg Qz.move ?_;refine Xg Qz.indexN ?_;refine Xg Qz.fldE ?_;refine Xg Qz.loadEf ?_;refine Xg Qz.move ?_;refine Xg Qz.move ?_;refine Xg Qz.indexN ?_;refine Xg Qz.fldE ?_;refine Xg Qz.loadEf ?_;refine Xg (Qz.call (RmCmp_abs (tAt P i).m (tAt Q k).m)) ?_;refine Xg Qz.cmpF ?_;refine Xg Qz.pickT ?_;refine Xq Qz.pickF ?_;refine ⟨_,rfl,?_⟩
      apply Y0;refine Cf ?_;apply Ys;apply AWp.seq;apply AWp.seq
      refine AWp.dr' (DrawOk.self (by kernel_rfl)) [[],[],[(54,1)],[(53,0),(55,2)],[(56,3)],[],[],[(58,5),(59,6)],[(60,7)],[(61,8)],[],[],[(63,10),(64,11)],[(65,12)],[(66,13)],[(62,9),(67,14)],[(68,15)],[(57,4),(69,16)]] [[],[],[1],[0,1,2],[0,1,2,3],[0,1,2,3,4],[0,1,2,3,4],[0,1,2,3,4,5,6],[0,1,2,3,4,5,6,7],[0,1,2,3,4,5,6,7,8],[0,1,2,3,4],[0,1,2,3,4],[0,1,2,3,4,10,11],[0,1,2,3,4,10,11,12],[0,1,2,3,4,10,11,12,13],[0,1,2,3,4,5,6,7,8,9,10,11,12,13,14],[0,1,2,3,4,5,6,7,8,9,10,11,12,13,14,15],[0,1,2,3,4,5,6,7,8,9,10,11,12,13,14,15,16]] rfl (by kernel_rfl) (by kernel_rfl) (by kernel_rfl) ?_
      refine Xq Qz.move ?_;refine Xq Qz.move ?_;refine Xq Qz.lenN ?_;refine Xq Qz.cmpF ?_;refine Xq Qz.move ?_;refine Xg Qz.move ?_;refine Xg Qz.move ?_;refine Xg Qz.indexN ?_;refine Xg Qz.fldE ?_;refine Xg Qz.loadEf ?_;refine Xg Qz.move ?_;refine Xg Qz.move ?_;refine Xg Qz.indexN ?_;refine Xg Qz.fldE ?_;refine Xg Qz.loadEf ?_;refine Xg (Qz.call (RmCmp_abs (tAt P i).m (tAt Q k).m)) ?_;refine Xg Qz.cmpF ?_;refine Xq Qz.pickF ?_;refine ⟨_,rfl,?_⟩
      apply Y0;refine Cf ?_;apply Ys;apply AWp.seq
      refine AWp.dr' (DrawOk.self (by kernel_rfl)) [[],[],[(80,0),(81,1)],[(82,2)],[(83,3)],[],[],[(85,5),(86,6)],[(87,7)],[(88,8)],[(84,4),(89,9)],[]] [[],[],[0,1],[0,1,2],[0,1,2,3],[],[],[5,6],[5,6,7],[5,6,7,8],[0,1,2,3,4,5,6,7,8,9],[]] rfl (by kernel_rfl) (by kernel_rfl) (by kernel_rfl) ?_
      refine Xq Qz.move ?_;refine Xq Qz.move ?_;refine Xq Qz.indexN ?_;refine Xq Qz.fldE ?_;refine Xq Qz.ldE ?_;refine Xq Qz.move ?_;refine Xq Qz.move ?_;refine Xq Qz.indexN ?_;refine Xq Qz.fldE ?_;refine Xq Qz.ldE ?_;refine Xq (Qz.call (RAdd_abs (tAt P i).c (tAt Q k).c N M hs ht hNM)) ?_;refine Xn ?_;refine ⟨_,rfl,?_⟩
      refine Sf ?_;apply Y0;apply AWp.seq;apply Y1;refine Wq Qz.ldD ?_;refine Wq (Qz.call (RSign_abs ((tAt P i).c+(tAt Q k).c))) ?_;refine Wq Qz.cmpF ?_;apply Y0;refine Cf ?_;apply Ys;apply Y1;refine Wm ?_;refine Wq Qz.succ ?_;refine Wa ?_;apply Y0;apply AWp.region;refine Wm ?_;refine Wq Qz.succ ?_;refine Wa ?_;apply AWl.nil;apply ABlock.normal
      refine ALoop.next ((P.length - (i+1))+(Q.length - (k+1))) (by omega) ⟨i+1,k+1,R,by omega,by omega,?_,by omega,rfl,rfl⟩ ?_
      ·rw [mrg_eq hc,if_pos hz] at heq
       exact heq
      ·exact AS.le_of (by refine Yd ?_;refine Yd ?_;refine FrLe.cons rfl (AVle.own rfl) ?_;refine Yd ?_;refine Yd ?_;exact FrLe.nil) (by apply Yr;exact HpLe.nil)
     ·have hsg:((tAt P i).c+(tAt Q k).c).num.sign ≠ 0:=fun e=>hz (num_sign0.1 e)
      apply AWp.seq;apply Y1;refine Wm ?_;refine Wm ?_;refine Wq Qz.lenN ?_;refine Wq Qz.cmpT ?_;refine Wm ?_;refine Ws ?_;refine Ws ?_;refine Ws ?_;refine Ws ?_;refine Wq Qz.pickT ?_;apply Y0;refine Ct ?_;apply Ys;apply AWp.block;apply AWp.seq;apply AWp.seq
      refine AWp.dr' (DrawOk.self (by kernel_rfl)) [[],[],[(21,1)],[(20,0),(22,2)],[(23,3)],[],[],[(26,6)],[(25,5),(27,7)],[(28,8)],[],[],[(30,10),(31,11)],[(32,12)],[(33,13)],[],[],[(35,15),(36,16)],[(37,17)],[(38,18)],[(34,14),(39,19)],[(40,20)],[(29,9),(41,21)],[(24,4),(42,22)]] [[],[],[1],[0,1,2],[0,1,2,3],[0,1,2,3,4],[0,1,2,3,4],[0,1,2,3,4,6],[0,1,2,3,4,5,6,7],[0,1,2,3,4,5,6,7,8],[0,1,2,3,4,5,6,7,8,9],[0,1,2,3,4,5,6,7,8,9],[0,1,2,3,4,5,6,7,8,9,10,11],[0,1,2,3,4,5,6,7,8,9,10,11,12],[0,1,2,3,4,5,6,7,8,9,10,11,12,13],[0,1,2,3,4,5,6,7,8,9],[0,1,2,3,4,5,6,7,8,9],[0,1,2,3,4,5,6,7,8,9,15,16],[0,1,2,3,4,5,6,7,8,9,15,16,17],[0,1,2,3,4,5,6,7,8,9,15,16,17,18],[0,1,2,3,4,5,6,7,8,9,10,11,12,13,14,15,16,17,18,19],[0,1,2,3,4,5,6,7,8,9,10,11,12,13,14,15,16,17,18,19,20],[0,1,2,3,4,5,6,7,8,9,10,11,12,13,14,15,16,17,18,19,20,21],[0,1,2,3,4,5,6,7,8,9,10,11,12,13,14,15,16,17,18,19,20,21,22]] rfl (by kernel_rfl) (by kernel_rfl) (by kernel_rfl) ?_
      refine Xq Qz.move ?_;refine Xq Qz.move ?_;refine Xq Qz.lenN ?_;refine Xq Qz.cmpF ?_;refine Xq Qz.move ?_;refine Xg Qz.move ?_;refine Xg Qz.move ?_;refine Xg Qz.lenN ?_;refine Xg Qz.cmpT ?_;refine Xg Qz.move ?_;refine Xg Qz.move ?_;refine Xg Qz.move ?_;refine Xg Qz.indexN ?_;refine Xg Qz.fldE ?_;refine Xg Qz.loadEf ?_;refine Xg Qz.move ?_;refine Xg Qz.move ?_;refine Xg Qz.indexN ?_;refine Xg Qz.fldE ?_;refine Xg Qz.loadEf ?_;refine Xg (Qz.call (RmCmp_abs (tAt P i).m (tAt Q k).m)) ?_;refine Xg Qz.cmpF ?_;refine Xg Qz.pickT ?_;refine Xq Qz.pickF ?_;refine ⟨_,rfl,?_⟩
      apply Y0;refine Cf ?_;apply Ys;apply AWp.seq;apply AWp.seq
      refine AWp.dr' (DrawOk.self (by kernel_rfl)) [[],[],[(54,1)],[(53,0),(55,2)],[(56,3)],[],[],[(58,5),(59,6)],[(60,7)],[(61,8)],[],[],[(63,10),(64,11)],[(65,12)],[(66,13)],[(62,9),(67,14)],[(68,15)],[(57,4),(69,16)]] [[],[],[1],[0,1,2],[0,1,2,3],[0,1,2,3,4],[0,1,2,3,4],[0,1,2,3,4,5,6],[0,1,2,3,4,5,6,7],[0,1,2,3,4,5,6,7,8],[0,1,2,3,4],[0,1,2,3,4],[0,1,2,3,4,10,11],[0,1,2,3,4,10,11,12],[0,1,2,3,4,10,11,12,13],[0,1,2,3,4,5,6,7,8,9,10,11,12,13,14],[0,1,2,3,4,5,6,7,8,9,10,11,12,13,14,15],[0,1,2,3,4,5,6,7,8,9,10,11,12,13,14,15,16]] rfl (by kernel_rfl) (by kernel_rfl) (by kernel_rfl) ?_
      refine Xq Qz.move ?_;refine Xq Qz.move ?_;refine Xq Qz.lenN ?_;refine Xq Qz.cmpF ?_;refine Xq Qz.move ?_;refine Xg Qz.move ?_;refine Xg Qz.move ?_;refine Xg Qz.indexN ?_;refine Xg Qz.fldE ?_;refine Xg Qz.loadEf ?_;refine Xg Qz.move ?_;refine Xg Qz.move ?_;refine Xg Qz.indexN ?_;refine Xg Qz.fldE ?_;refine Xg Qz.loadEf ?_;refine Xg (Qz.call (RmCmp_abs (tAt P i).m (tAt Q k).m)) ?_;refine Xg Qz.cmpF ?_;refine Xq Qz.pickF ?_;refine ⟨_,rfl,?_⟩
      apply Y0;refine Cf ?_;apply Ys;apply AWp.seq
      refine AWp.dr' (DrawOk.self (by kernel_rfl)) [[],[],[(80,0),(81,1)],[(82,2)],[(83,3)],[],[],[(85,5),(86,6)],[(87,7)],[(88,8)],[(84,4),(89,9)],[]] [[],[],[0,1],[0,1,2],[0,1,2,3],[],[],[5,6],[5,6,7],[5,6,7,8],[0,1,2,3,4,5,6,7,8,9],[]] rfl (by kernel_rfl) (by kernel_rfl) (by kernel_rfl) ?_
      refine Xq Qz.move ?_;refine Xq Qz.move ?_;refine Xq Qz.indexN ?_;refine Xq Qz.fldE ?_;refine Xq Qz.ldE ?_;refine Xq Qz.move ?_;refine Xq Qz.move ?_;refine Xq Qz.indexN ?_;refine Xq Qz.fldE ?_;refine Xq Qz.ldE ?_;refine Xq (Qz.call (RAdd_abs (tAt P i).c (tAt Q k).c N M hs ht hNM)) ?_;refine Xn ?_;refine ⟨_,rfl,?_⟩
      refine Sf ?_;apply Y0;apply AWp.seq;apply Y1;refine Wq Qz.ldD ?_;refine Wq (Qz.call (RSign_abs ((tAt P i).c+(tAt Q k).c))) ?_;refine Wq Qz.cmpT ?_;apply Y0;refine Ct ?_
      refine AWp.dr' (DrawOk.self (by kernel_rfl)) [[],[],[],[],[(96,2),(97,3)],[(98,4)],[(99,5)],[(95,1),(100,6)],[(101,7)]] [[],[],[],[],[2,3],[2,3,4],[2,3,4,5],[1,2,3,4,5,6],[1,2,3,4,5,6,7]] rfl (by kernel_rfl) (by kernel_rfl) (by kernel_rfl) ?_
      refine Xq Qz.move ?_;refine Xq Qz.ldD ?_;refine Xq Qz.move ?_;refine Xq Qz.move ?_;refine Xq Qz.indexN ?_;refine Xq Qz.fldE ?_;refine Xq Qz.loadEf ?_;(refine Hq rfl ?_;refine Bq.build (tab_of rfl) rfl rfl rfl ?_;(repeat ((first | refine ⟨_,PartOk.ag (ah rfl),?_⟩ | refine ⟨_,PartOk.one rfl (by first | exact One.ex_ rfl | exact One.sl | exact One.ep),?_⟩);refine ⟨_,rfl,?_⟩));refine ⟨_,rfl,?_⟩;refine ⟨_,rfl,?_⟩);(refine ⟨_,HStep.q rfl (Bq.slice1 (ah rfl) (tab_of rfl) (tab_of rfl) rfl rfl rfl rfl rfl),?_⟩;refine ⟨_,rfl,?_⟩);refine ⟨_,rfl,?_⟩
      (refine AWs.app (ao rfl) rfl rfl (tab_of rfl) (tab_of rfl) rfl rfl (by simp;omega) (by simp;omega) rfl (by first | ((repeat (first | exact PlainHp.nil | refine PlainHp.var ?_ | refine PlainHp.row ?_ | refine PlainHp.dead ?_));done) | fail) rfl ?_);refine Wa ?_;apply Y0;apply Y1;refine Wm ?_;refine Wq Qz.succ ?_;refine Wa ?_;apply Y0;apply AWp.region;refine Wm ?_;refine Wq Qz.succ ?_;refine Wa ?_;apply AWl.nil;apply ABlock.normal
      refine ALoop.next ((P.length - (i+1))+(Q.length - (k+1))) (by omega) ⟨i+1,k+1,R ++ [⟨(tAt P i).c+(tAt Q k).c,(tAt P i).m⟩],by omega,by omega,?_,by simp;omega,rfl,rfl⟩ ?_
      ·rw [mrg_eq hc,if_neg hz] at heq
       rw [← heq];simp
      ·exact AS.le_of (by refine Yd ?_;refine Yd ?_;refine FrLe.cons rfl (AVle.own rfl) ?_;refine Yd ?_;refine Yd ?_;exact FrLe.nil) (by refine HpLe.cons (OwLe.row (map_snoc tmC R ⟨(tAt P i).c+(tAt Q k).c,(tAt P i).m⟩)) ?_;exact HpLe.nil)
    ·have hc' : lex8 (tAt P i).m (tAt Q k).m = 1 := by rw [← lx_lex]; exact hc
     apply AWp.seq;apply Y1;refine Wm ?_;refine Wm ?_;refine Wq Qz.lenN ?_;refine Wq Qz.cmpT ?_;refine Wm ?_;refine Ws ?_;refine Ws ?_;refine Ws ?_;refine Ws ?_;refine Wq Qz.pickT ?_;apply Y0;refine Ct ?_;apply Ys;apply AWp.block;apply AWp.seq;apply AWp.seq
     refine AWp.dr' (DrawOk.self (by kernel_rfl)) [[],[],[(21,1)],[(20,0),(22,2)],[(23,3)],[],[],[(26,6)],[(25,5),(27,7)],[(28,8)],[],[],[(30,10),(31,11)],[(32,12)],[(33,13)],[],[],[(35,15),(36,16)],[(37,17)],[(38,18)],[(34,14),(39,19)],[(40,20)],[(29,9),(41,21)],[(24,4),(42,22)]] [[],[],[1],[0,1,2],[0,1,2,3],[0,1,2,3,4],[0,1,2,3,4],[0,1,2,3,4,6],[0,1,2,3,4,5,6,7],[0,1,2,3,4,5,6,7,8],[0,1,2,3,4,5,6,7,8,9],[0,1,2,3,4,5,6,7,8,9],[0,1,2,3,4,5,6,7,8,9,10,11],[0,1,2,3,4,5,6,7,8,9,10,11,12],[0,1,2,3,4,5,6,7,8,9,10,11,12,13],[0,1,2,3,4,5,6,7,8,9],[0,1,2,3,4,5,6,7,8,9],[0,1,2,3,4,5,6,7,8,9,15,16],[0,1,2,3,4,5,6,7,8,9,15,16,17],[0,1,2,3,4,5,6,7,8,9,15,16,17,18],[0,1,2,3,4,5,6,7,8,9,10,11,12,13,14,15,16,17,18,19],[0,1,2,3,4,5,6,7,8,9,10,11,12,13,14,15,16,17,18,19,20],[0,1,2,3,4,5,6,7,8,9,10,11,12,13,14,15,16,17,18,19,20,21],[0,1,2,3,4,5,6,7,8,9,10,11,12,13,14,15,16,17,18,19,20,21,22]] rfl (by kernel_rfl) (by kernel_rfl) (by kernel_rfl) ?_
     refine Xq Qz.move ?_;refine Xq Qz.move ?_;refine Xq Qz.lenN ?_;refine Xq Qz.cmpF ?_;refine Xq Qz.move ?_;refine Xg Qz.move ?_;refine Xg Qz.move ?_;refine Xg Qz.lenN ?_;refine Xg Qz.cmpT ?_;refine Xg Qz.move ?_;refine Xg Qz.move ?_;refine Xg Qz.move ?_;refine Xg Qz.indexN ?_;refine Xg Qz.fldE ?_;refine Xg Qz.loadEf ?_;refine Xg Qz.move ?_;refine Xg Qz.move ?_;refine Xg Qz.indexN ?_;refine Xg Qz.fldE ?_;refine Xg Qz.loadEf ?_;refine Xg (Qz.call (RmCmp_abs (tAt P i).m (tAt Q k).m)) ?_;refine Xg Qz.cmpT ?_;refine Xg Qz.pickT ?_;refine Xq Qz.pickF ?_;refine ⟨_,rfl,?_⟩
     apply Y0;refine Ct ?_;apply Y1;refine Wm ?_;refine Wm ?_;refine Wm ?_;refine Wq Qz.indexN ?_;refine Wq Qz.loadEf ?_;(refine AWs.q rfl rfl ?_;refine ⟨_,Bq.slice1 (ao rfl) (tab_of rfl) (tab_of rfl) rfl rfl rfl rfl rfl,?_⟩);(refine AWs.app (ao rfl) rfl rfl (tab_of rfl) (tab_of rfl) rfl rfl (by simp;omega) (by simp;omega) rfl (by first | ((repeat (first | exact PlainHp.nil | refine PlainHp.var ?_ | refine PlainHp.row ?_ | refine PlainHp.dead ?_));done) | fail) rfl ?_);refine Wa ?_;apply Y0;apply Y1;refine Wm ?_;refine Wq Qz.succ ?_;refine Wa ?_;apply Y0;apply AWp.exit;apply AThen.exit;apply ABlock.hit
     refine ALoop.next ((P.length - (i+1))+(Q.length - k)) (by omega) ⟨i+1,k,R ++ [tAt P i],by omega,by omega,?_,by simp;omega,rfl,rfl⟩ ?_
     ·rw [mrg_gt hc] at heq
      rw [← heq,hdQ];simp
     ·exact AS.le_of (by refine Yd ?_;refine Yd ?_;refine FrLe.cons rfl (AVle.own rfl) ?_;refine Yd ?_;refine Yd ?_;exact FrLe.nil) (by refine HpLe.cons (OwLe.row (map_snoc tmC R (tAt P i))) ?_;exact HpLe.nil)
   ·apply AWp.seq;apply Y1;refine Wm ?_;refine Wm ?_;refine Wq Qz.lenN ?_;refine Wq Qz.cmpT ?_;refine Wm ?_;refine Ws ?_;refine Ws ?_;refine Ws ?_;refine Ws ?_;refine Wq Qz.pickT ?_;apply Y0;refine Ct ?_;apply Ys;apply AWp.block;apply AWp.seq;apply AWp.seq
    refine AWp.dr' (DrawOk.self (by kernel_rfl)) [[],[],[(21,1)],[(20,0),(22,2)],[(23,3)],[],[],[(26,6)],[(25,5),(27,7)],[(28,8)],[],[],[(30,10),(31,11)],[(32,12)],[(33,13)],[],[],[(35,15),(36,16)],[(37,17)],[(38,18)],[(34,14),(39,19)],[(40,20)],[(29,9),(41,21)],[(24,4),(42,22)]] [[],[],[1],[0,1,2],[0,1,2,3],[0,1,2,3,4],[0,1,2,3,4],[0,1,2,3,4,6],[0,1,2,3,4,5,6,7],[0,1,2,3,4,5,6,7,8],[0,1,2,3,4,5,6,7,8,9],[0,1,2,3,4,5,6,7,8,9],[0,1,2,3,4,5,6,7,8,9,10,11],[0,1,2,3,4,5,6,7,8,9,10,11,12],[0,1,2,3,4,5,6,7,8,9,10,11,12,13],[0,1,2,3,4,5,6,7,8,9],[0,1,2,3,4,5,6,7,8,9],[0,1,2,3,4,5,6,7,8,9,15,16],[0,1,2,3,4,5,6,7,8,9,15,16,17],[0,1,2,3,4,5,6,7,8,9,15,16,17,18],[0,1,2,3,4,5,6,7,8,9,10,11,12,13,14,15,16,17,18,19],[0,1,2,3,4,5,6,7,8,9,10,11,12,13,14,15,16,17,18,19,20],[0,1,2,3,4,5,6,7,8,9,10,11,12,13,14,15,16,17,18,19,20,21],[0,1,2,3,4,5,6,7,8,9,10,11,12,13,14,15,16,17,18,19,20,21,22]] rfl (by kernel_rfl) (by kernel_rfl) (by kernel_rfl) ?_
    refine Xq Qz.move ?_;refine Xq Qz.move ?_;refine Xq Qz.lenN ?_;refine Xq Qz.cmpT ?_;refine Xq Qz.move ?_;refine Xs ?_;refine Xs ?_;refine Xs ?_;refine Xs ?_;refine Xs ?_;refine Xs ?_;refine Xs ?_;refine Xs ?_;refine Xs ?_;refine Xs ?_;refine Xs ?_;refine Xs ?_;refine Xs ?_;refine Xs ?_;refine Xs ?_;refine Xs ?_;refine Xs ?_;refine Xs ?_;refine Xq Qz.pickT ?_;refine ⟨_,rfl,?_⟩
    apply Y0;refine Ct ?_;apply Y1;refine Wm ?_;refine Wm ?_;refine Wm ?_;refine Wq Qz.indexN ?_;refine Wq Qz.loadEf ?_;(refine AWs.q rfl rfl ?_;refine ⟨_,Bq.slice1 (ao rfl) (tab_of rfl) (tab_of rfl) rfl rfl rfl rfl rfl,?_⟩);(refine AWs.app (ao rfl) rfl rfl (tab_of rfl) (tab_of rfl) rfl rfl (by simp;omega) (by simp;omega) rfl (by first | ((repeat (first | exact PlainHp.nil | refine PlainHp.var ?_ | refine PlainHp.row ?_ | refine PlainHp.dead ?_));done) | fail) rfl ?_);refine Wa ?_;apply Y0;apply Y1;refine Wm ?_;refine Wq Qz.succ ?_;refine Wa ?_;apply Y0;apply AWp.exit;apply AThen.exit;apply ABlock.hit
    refine ALoop.next ((P.length - (i+1))+(Q.length - k)) (by omega) ⟨i+1,k,R ++ [tAt P i],by omega,by omega,?_,by simp;omega,rfl,rfl⟩ ?_
    ·have hq : Q.drop k = [] := List.drop_eq_nil_of_le (by omega)
     rw [hdP,hq,mrg_nil] at heq
     rw [← heq,hq,mrg_nil];simp
    ·exact AS.le_of (by refine Yd ?_;refine Yd ?_;refine FrLe.cons rfl (AVle.own rfl) ?_;refine Yd ?_;refine Yd ?_;exact FrLe.nil) (by refine HpLe.cons (OwLe.row (map_snoc tmC R (tAt P i))) ?_;exact HpLe.nil)
  ·have hp : P.drop i = [] := List.drop_eq_nil_of_le (by omega)
   by_cases hkq:k<Q.length
   ·have hdQ:=drop_tAt hkq
    apply AWp.seq;apply Y1;refine Wm ?_;refine Wm ?_;refine Wq Qz.lenN ?_;refine Wq Qz.cmpF ?_;refine Wm ?_;refine Wg Qz.move ?_;refine Wg Qz.move ?_;refine Wg Qz.lenN ?_;refine Wg Qz.cmpT ?_;refine Wq Qz.pickF ?_;apply Y0;refine Ct ?_;apply Ys;apply AWp.block;apply AWp.seq;apply AWp.seq
    refine AWp.dr' (DrawOk.self (by kernel_rfl)) [[],[],[(21,1)],[(20,0),(22,2)],[(23,3)],[],[],[(26,6)],[(25,5),(27,7)],[(28,8)],[],[],[(30,10),(31,11)],[(32,12)],[(33,13)],[],[],[(35,15),(36,16)],[(37,17)],[(38,18)],[(34,14),(39,19)],[(40,20)],[(29,9),(41,21)],[(24,4),(42,22)]] [[],[],[1],[0,1,2],[0,1,2,3],[0,1,2,3,4],[0,1,2,3,4],[0,1,2,3,4,6],[0,1,2,3,4,5,6,7],[0,1,2,3,4,5,6,7,8],[0,1,2,3,4,5,6,7,8,9],[0,1,2,3,4,5,6,7,8,9],[0,1,2,3,4,5,6,7,8,9,10,11],[0,1,2,3,4,5,6,7,8,9,10,11,12],[0,1,2,3,4,5,6,7,8,9,10,11,12,13],[0,1,2,3,4,5,6,7,8,9],[0,1,2,3,4,5,6,7,8,9],[0,1,2,3,4,5,6,7,8,9,15,16],[0,1,2,3,4,5,6,7,8,9,15,16,17],[0,1,2,3,4,5,6,7,8,9,15,16,17,18],[0,1,2,3,4,5,6,7,8,9,10,11,12,13,14,15,16,17,18,19],[0,1,2,3,4,5,6,7,8,9,10,11,12,13,14,15,16,17,18,19,20],[0,1,2,3,4,5,6,7,8,9,10,11,12,13,14,15,16,17,18,19,20,21],[0,1,2,3,4,5,6,7,8,9,10,11,12,13,14,15,16,17,18,19,20,21,22]] rfl (by kernel_rfl) (by kernel_rfl) (by kernel_rfl) ?_
    refine Xq Qz.move ?_;refine Xq Qz.move ?_;refine Xq Qz.lenN ?_;refine Xq Qz.cmpF ?_;refine Xq Qz.move ?_;refine Xg Qz.move ?_;refine Xg Qz.move ?_;refine Xg Qz.lenN ?_;refine Xg Qz.cmpF ?_;refine Xg Qz.move ?_;refine Xs ?_;refine Xs ?_;refine Xs ?_;refine Xs ?_;refine Xs ?_;refine Xs ?_;refine Xs ?_;refine Xs ?_;refine Xs ?_;refine Xs ?_;refine Xs ?_;refine Xs ?_;refine Xg Qz.pickF ?_;refine Xq Qz.pickF ?_;refine ⟨_,rfl,?_⟩
    apply Y0;refine Cf ?_;apply Ys;apply AWp.seq;apply AWp.seq
    refine AWp.dr' (DrawOk.self (by kernel_rfl)) [[],[],[(54,1)],[(53,0),(55,2)],[(56,3)],[],[],[(58,5),(59,6)],[(60,7)],[(61,8)],[],[],[(63,10),(64,11)],[(65,12)],[(66,13)],[(62,9),(67,14)],[(68,15)],[(57,4),(69,16)]] [[],[],[1],[0,1,2],[0,1,2,3],[0,1,2,3,4],[0,1,2,3,4],[0,1,2,3,4,5,6],[0,1,2,3,4,5,6,7],[0,1,2,3,4,5,6,7,8],[0,1,2,3,4],[0,1,2,3,4],[0,1,2,3,4,10,11],[0,1,2,3,4,10,11,12],[0,1,2,3,4,10,11,12,13],[0,1,2,3,4,5,6,7,8,9,10,11,12,13,14],[0,1,2,3,4,5,6,7,8,9,10,11,12,13,14,15],[0,1,2,3,4,5,6,7,8,9,10,11,12,13,14,15,16]] rfl (by kernel_rfl) (by kernel_rfl) (by kernel_rfl) ?_
    refine Xq Qz.move ?_;refine Xq Qz.move ?_;refine Xq Qz.lenN ?_;refine Xq Qz.cmpT ?_;refine Xq Qz.move ?_;refine Xs ?_;refine Xs ?_;refine Xs ?_;refine Xs ?_;refine Xs ?_;refine Xs ?_;refine Xs ?_;refine Xs ?_;refine Xs ?_;refine Xs ?_;refine Xs ?_;refine Xs ?_;refine Xq Qz.pickT ?_;refine ⟨_,rfl,?_⟩
    apply Y0;refine Ct ?_;apply Y1;refine Wm ?_;refine Wm ?_;refine Wm ?_;refine Wq Qz.indexN ?_;refine Wq Qz.loadEf ?_;(refine AWs.q rfl rfl ?_;refine ⟨_,Bq.slice1 (ao rfl) (tab_of rfl) (tab_of rfl) rfl rfl rfl rfl rfl,?_⟩);(refine AWs.app (ao rfl) rfl rfl (tab_of rfl) (tab_of rfl) rfl rfl (by simp;omega) (by simp;omega) rfl (by first | ((repeat (first | exact PlainHp.nil | refine PlainHp.var ?_ | refine PlainHp.row ?_ | refine PlainHp.dead ?_));done) | fail) rfl ?_);refine Wa ?_;apply Y0;apply Y1;refine Wm ?_;refine Wq Qz.succ ?_;refine Wa ?_;apply Y0;apply AWp.exit;apply AThen.exit;apply ABlock.hit
    refine ALoop.next ((P.length - i)+(Q.length - (k+1))) (by omega) ⟨i,k+1,R ++ [tAt Q k],by omega,by omega,?_,by simp;omega,rfl,rfl⟩ ?_
    ·rw [hdQ,hp,nil_mrg] at heq
     rw [← heq,hp,nil_mrg];simp
    ·exact AS.le_of (by refine Yd ?_;refine Yd ?_;refine FrLe.cons rfl (AVle.own rfl) ?_;refine Yd ?_;refine Yd ?_;exact FrLe.nil) (by refine HpLe.cons (OwLe.row (map_snoc tmC R (tAt Q k))) ?_;exact HpLe.nil)
   ·apply AWp.seq;apply Y1;refine Wm ?_;refine Wm ?_;refine Wq Qz.lenN ?_;refine Wq Qz.cmpF ?_;refine Wm ?_;refine Wg Qz.move ?_;refine Wg Qz.move ?_;refine Wg Qz.lenN ?_;refine Wg Qz.cmpF ?_;refine Wq Qz.pickF ?_;apply Y0;refine Cf ?_;apply AWp.exit;apply AThen.exit;apply ALoop.exit;apply ABlock.hit;apply Yn;apply Y1;refine Wm ?_;refine Wa ?_;apply Y0;apply AWp.ret
    have hq:Q.drop k = []:=List.drop_eq_nil_of_le (by omega)
    exact Fin.ret (Rets.of1 (ResV.tmp rfl rfl) (D.le.of_eq (by rw [← heq,hp,hq,nil_mrg,List.append_nil];rfl)))
theorem RTimes0_abs (c : Rat) (m:Nat→Int) (P:List Tm) (hc:c = 0):Abs Tryz.prog 52 [agD (ratC c),agD (monC m),polD P] (tupD [polD [],ex (.int .i64 0)]):=by
 have hs:=num_sign0.2 hc
 refine Ab Tryz.func52 fun s0=>?_
 rw [Tryz.ntmps52]
 apply Y1;refine AWs.bx (ao rfl) rfl rfl rfl rfl ?_;refine AWs.bx (ao rfl) rfl rfl rfl rfl ?_;refine Wa ?_;refine Wa ?_;apply Y0;apply Y1;refine AWs.b0 (tab_of rfl) (tab_of rfl) rfl rfl rfl rfl rfl ?_;refine Wa ?_;apply Y0;apply AWp.seq;apply Y1;refine Wq Qz.ldD ?_;refine Wq (Qz.call (RSign_abs c)) ?_;refine Wq Qz.cmpT ?_;apply Y0;refine Ct ?_;apply Y1;refine Wa ?_;refine Wa ?_;apply Y0;apply AWp.ret;apply AThen.ret
 exact Fin.ret (Rets.of2 (ResV.tmp rfl rfl) (ResV.tmp rfl rfl) (D.le.tup2 (D.le_nilP) (D.le.refl _)))
theorem RTimes_abs (c : Rat) (m:Nat→Int) (P:List Tm) (N M:Nat) (hc:c ≠ 0) (hcs:RSz c N) (hm:In8 m 0 65535) (hP:PSz P M) (hPi:PIn P 0 65535) (hmP:∀ t∈P,In8 (add8 m t.m) 0 65535) (hn:P.length≤100000) (hNM:N+M≤4398046511103):Abs Tryz.prog 52 [agD (ratC c),agD (monC m),polD P] (tupD [polD (tms c m P),ex (.int .i64 0)]):=by
 have hs:c.num.sign ≠ 0:=fun e=>hc (num_sign0.1 e)
 refine Ab Tryz.func52 fun s0=>?_
 rw [Tryz.ntmps52]
 apply Y1;refine AWs.bx (ao rfl) rfl rfl rfl rfl ?_;refine AWs.bx (ao rfl) rfl rfl rfl rfl ?_;refine Wa ?_;refine Wa ?_;apply Y0;apply Y1;refine AWs.b0 (tab_of rfl) (tab_of rfl) rfl rfl rfl rfl rfl ?_;refine Wa ?_;apply Y0;apply AWp.seq;apply Y1;refine Wq Qz.ldD ?_;refine Wq (Qz.call (RSign_abs c)) ?_;refine Wq Qz.cmpF ?_;apply Y0;refine Cf ?_;apply Ys;apply AWp.seq;apply Y1;refine Wa ?_;apply Y0;apply AWp.block
 refine AWp.loop (fun mz σ=>∃ k,k≤P.length∧mz = P.length - k∧σ = ⟨[(2,.d (polD P)),(3,.ptr 0 0),(4,.ptr 1 0),(8,.own 2),(9,.d (ex (.int .i64 (k:Nat))))],[.var 29 ((ratC c).map .d),.var 31 ((monC m).map .d),.row 33 12 ((tms c m (P.take k)).map tmC)]⟩) ?le ⟨0,by omega,rfl,rfl⟩ ?round
 case le=>exact AS.le_of (by refine Yd ?_;refine Yp ?_;refine Yp ?_;refine FrLe.cons rfl (AVle.own rfl) ?_;refine Yd ?_;exact FrLe.nil) (by apply Yv;apply Yv;apply Yr;exact HpLe.nil)
 case round =>
  rintro mz _ ⟨k,hk,rfl,rfl⟩
  by_cases hlt:k<P.length
  ·have ht:=tAt_mem hlt
   have htk:=take_tAt hlt
   apply AWp.seq;apply Y1;refine Wm ?_;refine Wm ?_;refine Wq Qz.lenN ?_;refine Wq Qz.cmpT ?_;apply Y0;refine Ct ?_;apply Ys;apply AWp.seq;apply AWp.block;apply AWp.seq
   refine AWp.dr' (DrawOk.float (e:=9) (by kernel_rfl) (K4 (K4 (AddE.keep (AddE.keep (AddE.keep (AddE.add (AddE.keep AddE.nil))))))) (by kernel_rfl)) [[],[],[],[(24,1),(25,2)],[(26,3)],[(27,4)],[(23,0),(28,5)],[(29,6)],[(22,7)],[(22,7)],[]] [[],[],[],[1,2],[1,2,3],[1,2,3,4],[0,1,2,3,4,5],[0,1,2,3,4,5,6],[0,1,2,3,4,5,6,7],[0,1,2,3,4,5,6,7],[]] rfl (by kernel_rfl) (by kernel_rfl) (by kernel_rfl) ?_
   refine Xq Qz.ldD ?_;refine Xq Qz.move ?_;refine Xq Qz.move ?_;refine Xq Qz.indexN ?_;refine Xq Qz.fldE ?_;refine Xq Qz.loadEf ?_;refine Xq (Qz.call (RmMul_abs m (tAt P k).m hm (hPi _ ht) (hmP _ ht))) ?_;refine Xq Qz.move ?_;refine Xq Qz.ext ?_;refine Xq Qz.ext ?_;refine Xn ?_;refine ⟨_,rfl,?_⟩
   refine Sf ?_;refine Wa ?_;apply AWl.nil;apply OnlyN.mk';apply Yn;apply AWp.seq;apply Y1;refine Wm ?_;refine Wq Qz.cmpF ?_;apply Y0;refine Cf ?_;apply Ys
   refine AWp.dr' (DrawOk.self (by kernel_rfl)) [[],[],[],[],[(36,2),(37,3)],[(38,4)],[(39,5)],[(35,1),(40,6)],[],[(41,7),(42,8)],[(43,9)]] [[],[],[],[],[2,3],[2,3,4],[2,3,4,5],[1,2,3,4,5,6],[],[1,2,3,4,5,6,7,8],[1,2,3,4,5,6,7,8,9]] rfl (by kernel_rfl) (by kernel_rfl) (by kernel_rfl) ?_
   refine Xq Qz.move ?_;refine Xq Qz.ldD ?_;refine Xq Qz.move ?_;refine Xq Qz.move ?_;refine Xq Qz.indexN ?_;refine Xq Qz.fldE ?_;refine Xq Qz.ldE ?_;refine Xq (Qz.call (RMul_abs c (tAt P k).c N M hcs (hP _ ht) hNM)) ?_;refine Xq Qz.ldD ?_;(refine Hq rfl ?_;refine Bq.build (tab_of rfl) rfl rfl rfl ?_;(repeat ((first | refine ⟨_,PartOk.ag (ah rfl),?_⟩ | refine ⟨_,PartOk.one rfl (by first | exact One.ex_ rfl | exact One.sl | exact One.ep),?_⟩);refine ⟨_,rfl,?_⟩));refine ⟨_,rfl,?_⟩;refine ⟨_,rfl,?_⟩);(refine ⟨_,HStep.q rfl (Bq.slice1 (ah rfl) (tab_of rfl) (tab_of rfl) rfl rfl rfl rfl rfl),?_⟩;refine ⟨_,rfl,?_⟩);refine ⟨_,rfl,?_⟩
   (refine AWs.app (ao rfl) rfl rfl (tab_of rfl) (tab_of rfl) rfl rfl (by simp;omega) (by simp;omega) rfl (by first | ((repeat (first | exact PlainHp.nil | refine PlainHp.var ?_ | refine PlainHp.row ?_ | refine PlainHp.dead ?_));done) | fail) rfl ?_);refine Wa ?_;apply AWl.nil;apply ABlock.normal;apply Yn;apply AWp.region;refine Wm ?_;refine Wq Qz.succ ?_;refine Wa ?_;apply AWl.nil
   refine ALoop.next (P.length - (k+1)) (by omega) ⟨k+1,by omega,rfl,rfl⟩ ?_
   exact AS.le_of (by refine Yd ?_;refine Yp ?_;refine Yp ?_;refine FrLe.cons rfl (AVle.own rfl) ?_;refine Yd ?_;exact FrLe.nil) (by apply Yv;apply Yv;(refine HpLe.cons (OwLe.row ((map_snoc tmC _ ⟨c*(tAt P k).c,add8 m (tAt P k).m⟩).trans (by rw [← htk];simp [tms]))) ?_);exact HpLe.nil)
  ·obtain rfl : k = P.length := by omega
   apply AWp.seq;apply Y1;refine Wm ?_;refine Wm ?_;refine Wq Qz.lenN ?_;refine Wq Qz.cmpF ?_;apply Y0;refine Cf ?_;apply AWp.exit;apply AThen.exit;apply ALoop.exit;apply ABlock.hit;apply Yn;apply Y1;refine Wm ?_;refine Wa ?_;refine Wa ?_;apply Y0;apply AWp.ret
   exact Fin.ret (Rets.of2 (ResV.tmp rfl rfl) (ResV.tmp rfl rfl) (D.le.tup2 (D.le.of_eq (by rw [List.take_length];rfl)) (D.le.refl _)))
def sclL (c : Rat) (P:List Tm):List Tm:=if c = 0 then [] else tms c (fun _=>0) P
theorem RScale_abs (c : Rat) (P:List Tm) (N M:Nat) (hcs:RSz c N) (hP:PSz P M) (hPi:PIn P 0 65535) (hn:P.length≤100000) (hNM:N+M≤4398046511103):Abs Tryz.prog 104 [agD (ratC c),polD P] (polD (sclL c P)):=by
 by_cases hc:c = 0
 ·refine Ab Tryz.func104 fun s0 => ?_
  rw [Tryz.ntmps104]
  apply Y1;refine AWs.bx (ao rfl) rfl rfl rfl rfl ?_;refine Wa ?_;apply Y0;apply Y1;refine Wq Qz.ldD ?_;(refine AWs.q rfl rfl ?_;(refine Bq.arr (tab_of rfl) (tab_of rfl) rfl rfl ?_;(repeat ((first | refine ⟨_,PartOk.ag (ao rfl),?_⟩ | refine ⟨_,PartOk.one rfl (by first | exact One.ex_ rfl | exact One.sl | exact One.ep),?_⟩);refine ⟨_,rfl,?_⟩));refine ⟨_,rfl,?_⟩));refine Wm ?_;refine Wq (Qz.call (RTimes0_abs c (fun _=>0) P hc)) ?_;refine Wm ?_;refine Wq Qz.ext ?_;refine Wq Qz.ext ?_;refine Wa ?_;refine Wa ?_;apply Y0;apply Y1;refine Wm ?_;refine Wa ?_;apply Y0;apply AWp.ret
  exact Fin.ret (Rets.of1 (ResV.tmp rfl rfl) (D.le_pol (by rw [sclL,if_pos hc])))
 ·refine Ab Tryz.func104 fun s0 => ?_
  rw [Tryz.ntmps104]
  apply Y1;refine AWs.bx (ao rfl) rfl rfl rfl rfl ?_;refine Wa ?_;apply Y0;apply Y1;refine Wq Qz.ldD ?_;(refine AWs.q rfl rfl ?_;(refine Bq.arr (tab_of rfl) (tab_of rfl) rfl rfl ?_;(repeat ((first | refine ⟨_,PartOk.ag (ao rfl),?_⟩ | refine ⟨_,PartOk.one rfl (by first | exact One.ex_ rfl | exact One.sl | exact One.ep),?_⟩);refine ⟨_,rfl,?_⟩));refine ⟨_,rfl,?_⟩));refine Wm ?_;refine Wq (Qz.call (RTimes_abs c (fun _=>0) P N M hc hcs In8.zero hP hPi (fun t ht=>by rw [zero_add8];exact hPi t ht) hn hNM)) ?_;refine Wm ?_;refine Wq Qz.ext ?_;refine Wq Qz.ext ?_;refine Wa ?_;refine Wa ?_;apply Y0;apply Y1;refine Wm ?_;refine Wa ?_;apply Y0;apply AWp.ret
  exact Fin.ret (Rets.of1 (ResV.tmp rfl rfl) (D.le_pol (by rw [sclL,if_neg hc])))
theorem tms_psz {c : Rat} {m:Nat→Int} {P:List Tm} {N M:Nat} (hc:RSz c N) (hP:PSz P M):PSz (tms c m P) (N+M):=fun t ht=>by
 obtain ⟨s,hs,rfl⟩:=List.mem_map.1 ht
 exact hc.mul (hP s hs)
theorem sclL_psz {c : Rat} {P:List Tm} {N M:Nat} (hc:RSz c N) (hP:PSz P M):PSz (sclL c P) (N+M):=by
 unfold sclL
 split
 ·intro t ht;cases ht
 ·exact tms_psz hc hP
theorem sclL_length (c : Rat) (P:List Tm):(sclL c P).length≤P.length:=by
 unfold sclL
 split <;> simp
theorem rsz_sm {x : Int} (h0:-1000≤x) (h1:x≤1000):RSz ((x:Int):Rat) 1:=by
 refine ⟨?_,?_⟩
 ·show (digs (x:Int).natAbs).length≤1
  exact len_of_lt (by simp only [BB,Nat.pow_one];omega)
 ·show (digs 1).length≤1
  exact len_of_lt (by simp only [BB,Nat.pow_one];omega)
theorem RSub_abs (P Q:List Tm) (N M:Nat) (hP:PSz P N) (hQ:PSz Q M) (hQi:PIn Q 0 65535) (hNM:N+M+2≤4398046511103) (hn:P.length+Q.length≤100000):Abs Tryz.prog 57 [polD P,polD Q] (polD (mrg P (sclL (-1:Int) Q))):=by
 have h1:RSz ((-1:Int):Rat) 1:=rsz_sm (by omega) (by omega)
 have hl:=sclL_length (-1:Int) Q
 refine Ab Tryz.func57 fun s0=>?_
 rw [Tryz.ntmps57]
 apply Y1;refine Wa ?_;apply Y0;apply Y1;refine Wm ?_;refine Wq (Qz.call (RWhole_abs (-1) (by omega) (by omega))) ?_;refine Wm ?_;refine Wq (Qz.call (RScale_abs (-1:Int) Q 1 M h1 hQ hQi (by omega) (by omega))) ?_;refine Wq (Qz.call (RAdd_pol P (sclL (-1:Int) Q) N (1+M) hP (sclL_psz h1 hQ) (by omega) (by omega))) ?_;refine Wa ?_;apply Y0;apply AWp.ret
 exact Yf
theorem Canon.nil : Canon []:=⟨List.Pairwise.nil,fun t h=>by cases h⟩
theorem Canon.single {t : Tm} (h:t.c ≠ 0):Canon [t]:=⟨List.pairwise_singleton _ _,fun u hu=>by rw [List.mem_singleton.1 hu];exact h⟩
theorem mrg_psz {N M:Nat}:∀ {P Q:List Tm},PSz P N→PSz Q M→PSz (mrg P Q) (N+M+1)
 | [],Q,_,h=>by simp only [mrg];exact h.mono (by omega)
 | s :: P,[],h,_=>by simp only [mrg];exact h.mono (by omega)
 | s :: P,t :: Q,hP,hQ=>by
  have hP':PSz P N:=fun u hu=>hP u (by simp [hu])
  have hQ':PSz Q M:=fun u hu=>hQ u (by simp [hu])
  have con:∀ {x:Tm} {L:List Tm},RSz x.c (N+M+1)→PSz L (N+M+1)→PSz (x :: L) (N+M+1):=fun h1 h2 u hu=>by
   rcases List.mem_cons.1 hu with rfl | hu
   ·exact h1
   ·exact h2 u hu
  rw [mrg]
  split
  ·exact con ((hP s (by simp)).mono (by omega)) (mrg_psz hP' hQ)
  ·split
   ·exact con ((hQ t (by simp)).mono (by omega)) (mrg_psz hP hQ')
   ·split
    ·exact mrg_psz hP' hQ'
    ·exact con ((hP s (by simp)).add (hQ t (by simp))) (mrg_psz hP' hQ')
termination_by P Q => P.length+Q.length
theorem mrg_pin {P Q:List Tm} {a b:Int} (hP:PIn P a b) (hQ:PIn Q a b):PIn (mrg P Q) a b:=fun u hu=>by
 rcases mrg_mem P Q u hu with ⟨s,hs,e⟩ | ⟨s,hs,e⟩
 ·rw [← e];exact hP s hs
 ·rw [← e];exact hQ s hs
theorem SameL.symm : ∀ {P Q:List Tm},SameL P Q→SameL Q P
 | [],[],_=>trivial
 | _ :: _,_ :: _,h=>⟨h.1.symm,h.2.1.symm,SameL.symm h.2.2⟩
 | [],_ :: _,h=>h.elim
 | _ :: _,[],h=>h.elim
structure PB (P : List Tm) (n N:Nat) (d:Int):Prop where
 can:Canon P
 len:P.length≤n
 sz:PSz P N
 ex:PIn P 0 d
theorem PB.mono {P : List Tm} {n N n' N':Nat} {d d':Int} (h:PB P n N d) (h1:n≤n') (h2:N≤N') (h3:d≤d'):PB P n' N' d':=⟨h.can,Nat.le_trans h.len h1,h.sz.mono h2,h.ex.mono (Int.le_refl _) h3⟩
theorem PB.nil {n N:Nat} {d:Int}:PB [] n N d:=⟨Canon.nil,Nat.zero_le _,fun t h=>(by cases h),fun t h=>(by cases h)⟩
theorem PB.add {P Q:List Tm} {n N n' N':Nat} {d d':Int} (h:PB P n N d) (k:PB Q n' N' d'):PB (mrg P Q) (n+n') (N+N'+1) (max d d') :=
 ⟨mrg_canon h.can k.can,by have:=mrg_length P Q;have:=h.len;have:=k.len;omega,mrg_psz h.sz k.sz,mrg_pin (h.ex.mono (Int.le_refl _) (by omega)) (k.ex.mono (Int.le_refl _) (by omega))⟩
def neg (P : List Tm):List Tm:=P.map (fT fun q=>-q)
theorem dec_map {f : Tm→Tm} {P:List Tm} (h:Dec P) (hf:∀ s∈P,∀ t∈P,0<lx s.m t.m→0<lx (f s).m (f t).m):Dec (P.map f):=by
 refine List.pairwise_map.2 (List.Pairwise.imp_of_mem (fun {a b} ha hb hab=>hf a ha b hb hab) h)
theorem neg_canon {P : List Tm} (h:Canon P):Canon (neg P):=⟨dec_map h.1 fun _ _ _ _ h=>h,fun t ht=>by
 obtain ⟨s,hs,rfl⟩:=List.mem_map.1 ht
 intro e
 have e:-s.c = 0:=e
 exact h.2 s hs (by grind)⟩
theorem PB.neg {P : List Tm} {n N : Nat} {d : Int} (h : PB P n N d) : PB (neg P) n N d := ⟨neg_canon h.can, by rw [Go.Proofs.YteicdddphdomkaaGreat.neg, List.length_map]; exact h.len, fun t ht => by
 obtain ⟨s,hs,rfl⟩:=List.mem_map.1 ht
 exact (h.sz s hs).neg,fun t ht=>by
 obtain ⟨s,hs,rfl⟩:=List.mem_map.1 ht
 exact h.ex s hs⟩
theorem neg_dot (f : (Nat→Int)→Rat):∀ P:List Tm,dot f (neg P) = -dot f P
 | []=>by simp [neg,dot]
 | t :: P=>by
  have:=neg_dot f P
  simp only [neg,List.map_cons,dot,fT] at this ⊢
  rw [this];grind
def psub (P Q:List Tm):List Tm:=mrg P (neg Q)
theorem PB.sub {P Q:List Tm} {n N n' N':Nat} {d d':Int} (h:PB P n N d) (k:PB Q n' N' d'):PB (psub P Q) (n+n') (N+N'+1) (max d d'):=h.add k.neg
theorem rat_mul_ne {a b:Rat} (ha:a ≠ 0) (hb:b ≠ 0):a*b ≠ 0:=fun e=>by
 rcases Rat.mul_eq_zero.1 e with h | h
 ·exact ha h
 ·exact hb h
theorem tms_canon {c : Rat} {m:Nat→Int} {P:List Tm} (hc:c ≠ 0) (h:Canon P):Canon (tms c m P):=⟨dec_map h.1 fun s _ t _ h=>by
 show 0<lx (add8 m s.m) (add8 m t.m)
 rwa [add8_comm m,add8_comm m,lx_add],fun t ht=>by
 obtain ⟨s,hs,rfl⟩:=List.mem_map.1 ht
 exact rat_mul_ne hc (h.2 s hs)⟩
theorem add8_in {a b:Nat→Int} {d e:Int} (ha:In8 a 0 d) (hb:In8 b 0 e):In8 (add8 a b) 0 (d+e):=fun i hi=>by
 have:=ha i hi
 have:=hb i hi
 simp only [add8]
 omega
theorem tms_pb {t : Tm} {P:List Tm} {n N N0:Nat} {d d0:Int} (h:PB P n N d) (hc:t.c ≠ 0) (hs:RSz t.c N0) (hm:In8 t.m 0 d0):PB (tms t.c t.m P) n (N0+N) (d0+d) :=
 ⟨tms_canon hc h.can, by rw [tms_length]; exact h.len, tms_psz hs h.sz, fun u hu => by
  obtain ⟨s,hs,rfl⟩:=List.mem_map.1 hu
  exact add8_in hm (h.ex s hs)⟩
def mulTo (A P Q:List Tm):List Tm:=P.foldl (fun a s=>mrg a (tms s.c s.m Q)) A
def pmul (P Q:List Tm):List Tm:=mulTo [] P Q
theorem mulTo_pb {Q : List Tm} {n' N' N:Nat} {d d':Int} (hQ:PB Q n' N' d'):∀ {P A:List Tm} {k K:Nat},(∀ t∈P,t.c ≠ 0)→PSz P N→PIn P 0 d→PB A k K (d+d')→PB (mulTo A P Q) (k+P.length*n') (K+P.length*(N+N'+1)) (d+d')
 | [],A,k,K,_,_,_,h=>by simpa [mulTo] using h
 | t :: P,A,k,K,h1,h2,h3,h=>by
  have ht:=tms_pb (t:=t) (d0:=d) hQ (h1 t (by simp)) (h2 t (by simp)) (h3 t (by simp))
  have h4:PB (mrg A (tms t.c t.m Q)) (k+n') (K+(N+N'+1)) (d+d'):=(h.add ht).mono (Nat.le_refl _) (by omega) (by omega)
  have:=mulTo_pb hQ (P:=P) (fun u hu=>h1 u (by simp [hu])) (fun u hu=>h2 u (by simp [hu])) (fun u hu=>h3 u (by simp [hu])) h4
  refine this.mono ?_ ?_ (Int.le_refl _)
  ·rw [List.length_cons,Nat.succ_mul];omega
  ·rw [List.length_cons,Nat.succ_mul];omega
theorem mulTo_sim {Q : List Tm}:∀ {P A:List Tm},Sim (mulTo A P Q) (A ++ mulL P Q)
 | [],A=>by simp only [mulTo,mulL,List.foldl_nil,List.flatMap_nil,List.append_nil];exact Sim.refl _
 | t :: P,A=>by
  refine (mulTo_sim (P:=P) (A:=mrg A (tms t.c t.m Q))).trans ?_
  refine ((mrg_sim _ _).append (Sim.refl _)).trans ?_
  simp only [mulL,List.flatMap_cons,tms,List.append_assoc]
  exact Sim.refl _
theorem pmul_sim (P Q:List Tm):Sim (pmul P Q) (mulL P Q):=mulTo_sim
theorem PB.mul {P Q:List Tm} {n N n' N':Nat} {d d':Int} (h:PB P n N d) (k:PB Q n' N' d') (h0:0≤d) (h0':0≤d'):PB (pmul P Q) (n*n') (n*(N+N'+1)) (d+d'):=by
 have:=mulTo_pb (A:=[]) (k:=0) (K:=0) (d:=d) k h.can.2 h.sz h.ex PB.nil
 refine this.mono ?_ ?_ (Int.le_refl _)
 ·rw [Nat.zero_add];exact Nat.mul_le_mul_right _ h.len
 ·rw [Nat.zero_add];exact Nat.mul_le_mul_right _ h.len
theorem polD_sim {P Q:List Tm} (hP:Canon P) (hQ:Canon Q) (h:Sim P Q):polD P = polD Q:=polD_same (canon_unique hP hQ h)
theorem neg_sim {P Q:List Tm} (h:Sim P Q):Sim (neg P) (neg Q):=fun f hf=>by rw [neg_dot,neg_dot,h f hf]
theorem PB.same {P Q:List Tm} {n N:Nat} {d:Int} (h:PB P n N d) (hs:SameL P Q):PB Q n N d:=by
 have key:∀ {P Q:List Tm},SameL P Q→∀ t∈Q,∃ s∈P,s.c = t.c∧Eqv s.m t.m:=by
  intro P
  induction P with
  | nil=>intro Q h t ht;cases Q with
   | nil=>cases ht
   | cons=>exact h.elim
  | cons s P ih=>intro Q h t ht;cases Q with
   | nil=>exact h.elim
   | cons u Q =>
    rcases List.mem_cons.1 ht with rfl | ht
    ·exact ⟨s,by simp,h.1,h.2.1⟩
    ·obtain ⟨x,hx,e⟩:=ih h.2.2 t ht
     exact ⟨x,by simp [hx],e⟩
 have dec:∀ {P Q:List Tm},SameL P Q→Dec P→Dec Q:=by
  intro P
  induction P with
  | nil=>intro Q h _;cases Q with
   | nil=>exact List.Pairwise.nil
   | cons=>exact h.elim
  | cons s P ih=>intro Q h hd;cases Q with
   | nil=>exact h.elim
   | cons u Q =>
    have hd:=List.pairwise_cons.1 hd
    refine List.pairwise_cons.2 ⟨fun t ht=>?_,ih h.2.2 hd.2⟩
    obtain ⟨x,hx,_,e⟩:=key h.2.2 t ht
    rw [← lx_congr h.2.1 e]
    exact hd.1 x hx
 refine ⟨⟨dec hs h.can.1,fun t ht=>?_⟩,by rw [← hs.length];exact h.len,fun t ht=>?_,fun t ht=>?_⟩
 ·obtain ⟨s,hs,e,_⟩:=key hs t ht
  rw [← e];exact h.can.2 s hs
 ·obtain ⟨s,hs,e,_⟩:=key hs t ht
  rw [← e];exact h.sz s hs
 ·obtain ⟨s,hs,_,e⟩:=key hs t ht
  intro i hi
  rw [← e i hi];exact h.ex s hs i hi
theorem constL_pb {c : Rat} {N:Nat} (h:RSz c N) {d:Int} (hd:0≤d):PB (constL c) 1 N d:=by
 unfold constL
 split
 ·exact PB.nil
 ·rename_i hc
  refine ⟨Canon.single hc,by simp,fun t ht=>by rw [List.mem_singleton.1 ht];exact h,fun t ht=>by rw [List.mem_singleton.1 ht];exact fun i hi=>⟨Int.le_refl _,hd⟩⟩
theorem PB.single {t : Tm} {N:Nat} {d:Int} (h:t.c ≠ 0) (hs:RSz t.c N) (hm:In8 t.m 0 d):PB [t] 1 N d:=⟨Canon.single h,by simp,fun u hu=>by rw [List.mem_singleton.1 hu];exact hs,fun u hu=>by rw [List.mem_singleton.1 hu];exact hm⟩
theorem unitE_in {i : Nat}:In8 (unitE i) 0 1:=fun j _=>by
 unfold unitE setM
 split
 ·omega
 ·exact ⟨Int.le_refl _,(by show (0:Int)≤1;omega)⟩
theorem mulTo_take {P Q A:List Tm} {k:Nat} (h:k<P.length):mulTo A (P.take (k+1)) Q = mrg (mulTo A (P.take k) Q) (tms (tAt P k).c (tAt P k).m Q):=foldl_tAt (fun a s=>mrg a (tms s.c s.m Q)) A h
theorem mulTo_take_pb {P Q:List Tm} {n N n' N':Nat} {d d':Int} (h:PB P n N d) (hQ:PB Q n' N' d') (h0:0≤d) (h0':0≤d') (k:Nat):PB (mulTo [] (P.take k) Q) (n*n') (n*(N+N'+1)) (d+d'):=by
 have:=mulTo_pb (A:=[]) (k:=0) (K:=0) (d:=d) (P:=P.take k) hQ (fun t ht=>h.can.2 t (List.mem_of_mem_take ht)) (fun t ht=>h.sz t (List.mem_of_mem_take ht)) (fun t ht=>h.ex t (List.mem_of_mem_take ht)) PB.nil
 have hl:(P.take k).length≤n:=Nat.le_trans (by rw [List.length_take];omega) h.len
 refine this.mono ?_ ?_ (Int.le_refl _)
 ·rw [Nat.zero_add];exact Nat.mul_le_mul_right _ hl
 ·rw [Nat.zero_add];exact Nat.mul_le_mul_right _ hl
theorem RPMul_pb {P Q:List Tm} {n N n' N':Nat} {d d':Int} (hP:PB P n N d) (hQ:PB Q n' N' d') (h0:0≤d) (h0':0≤d') (hd:d+d'≤65535) (hn0:n≤100000) (hn:n*n'+n'≤100000) (hN:n*(N+N'+1)+N+N'+1≤4398046511102):Abs Tryz.prog 115 [polD P,polD Q] (tupD [polD (pmul P Q),ex (.int .i64 0)]):=by
 have hPl:=hP.len
 have hQl:=hQ.len
 refine Ab Tryz.func115 fun s0=>?_
 rw [Tryz.ntmps115]
 repeat (first | apply AWp.seq | apply AWp.region | (apply Ga.b0;refine AWs.b0 (tab_of rfl) (tab_of rfl) rfl rfl rfl rfl rfl ?_) | (refine AWs.q rfl rfl ?_;(apply Gt.assign;refine ⟨_,Qs.assign (ao rfl),?_⟩)) | apply AWl.nil | apply Yn | apply AWp.block)
 refine AWp.loop (fun mz σ=>∃ k,k≤P.length∧mz = P.length - k∧σ = ⟨[(0,.d (polD P)),(1,.d (polD Q)),(6,.d (polD (mulTo [] (P.take k) Q))),(7,.d (ex (.int .i64 (k:Nat))))],[]⟩) ?le ⟨0,by omega,rfl,rfl⟩ ?round
 case le=>exact AS.le_of (by repeat (first | exact FrLe.nil | refine Yd ?_ | refine FrLe.cons rfl (AVle.ownD rfl (D.le.refl _)) ?_)) (by repeat (exact HpLe.nil))
 case round =>
  rintro mz _ ⟨k,hk,rfl,rfl⟩
  by_cases hlt:k<P.length
  ·have ht:=tAt_mem hlt
   have hm:=hP.ex _ ht
   have hb:=mulTo_take_pb hP hQ h0 h0' k
   have hbl:=hb.len
   have ht2:=tms_pb (t:=tAt P k) hQ (hP.can.2 _ ht) (hP.sz _ ht) hm
   have ht2l:=ht2.len
   repeat (first | apply AWp.seq | apply AWp.region | (refine AWs.q rfl rfl ?_;first | (apply Gt.move;refine ⟨_,Qs.move (ao rfl),?_⟩) | (apply Gt.len;refine ⟨_,Qs.lenN rfl (tab_of rfl),?_⟩) | (apply Gt.bin;refine ⟨_,Qs.cmpT rfl (ao rfl) (ao rfl) (by first | (simp only [cmpP,List.length_cons,List.length_nil];omega) | (simp [cmpP];done) | (simp [cmpP];omega)),?_⟩)) | apply AWl.nil | apply Yn | apply AWp.block | apply AWp.skip | (apply Gc.cond;refine Ct ?_))
   refine AWp.dr' (DrawOk.float (e:=14) (by kernel_rfl) (K4 (K4 (K4 (AddE.keep (AddE.keep (AddE.keep (AddE.add (AddE.keep AddE.nil)))))))) (by kernel_rfl)) [[],[],[(18,0),(19,1)],[(20,2)],[(21,3)],[],[],[(23,5),(24,6)],[(25,7)],[(26,8)],[],[(22,4),(27,9),(28,10)],[(29,11)],[(17,12)],[(17,12)]] [[],[],[0,1],[0,1,2],[0,1,2,3],[],[],[5,6],[5,6,7],[5,6,7,8],[],[0,1,2,3,4,5,6,7,8,9,10],[0,1,2,3,4,5,6,7,8,9,10,11],[0,1,2,3,4,5,6,7,8,9,10,11,12],[0,1,2,3,4,5,6,7,8,9,10,11,12]] rfl (by kernel_rfl) (by kernel_rfl) (by kernel_rfl) ?_
   repeat (first | refine ⟨_,rfl,?_⟩ | (apply Gh.move;(refine ⟨_,HStep.q rfl (Qs.move (ah rfl)),?_⟩;refine ⟨_,rfl,?_⟩)) | (apply Gh.load;first | (refine ⟨_,HStep.q rfl (Qs.loadEf (ah rfl) (tab_of rfl) rfl rfl),?_⟩;refine ⟨_,rfl,?_⟩) | (refine ⟨_,HStep.q rfl (Qs.ldE (ah rfl) (tab_of rfl) rfl rfl),?_⟩;refine ⟨_,rfl,?_⟩)) | (apply Gh.fieldAddr;(refine ⟨_,HStep.q rfl (Qs.fldE (ah rfl) (tab_of rfl) rfl (tab_of rfl) rfl rfl),?_⟩;refine ⟨_,rfl,?_⟩)) | (apply Gh.indexAddr;(refine ⟨_,HStep.q rfl (Qs.indexN rfl (ah rfl) (tab_of rfl) (tab_of rfl) rfl (by first | omega | (simp;omega))),?_⟩;refine ⟨_,rfl,?_⟩)) | (apply Gh.ext;(refine ⟨_,HStep.q rfl (Qs.ext (ah rfl) rfl),?_⟩;refine ⟨_,rfl,?_⟩)) | (apply Gh.callv;(refine ⟨_,HStep.q rfl (Qs.call (ah rfl) (RTimes_abs (tAt P k).c (tAt P k).m Q N N' (hP.can.2 _ ht) (hP.sz _ ht) (hm.mono (Int.le_refl _) (by omega)) hQ.sz (hQ.ex.mono (Int.le_refl _) (by omega)) (fun t h=>(add8_in hm (hQ.ex t h)).mono (Int.le_refl _) hd) (by omega) (by omega)) (by first | ((repeat (first | exact ArgsLe.nil | refine ArgsLe.cons rfl (D.le.refl _) ?_ | refine ArgsLe.cons rfl D.le_nil ?_));done) | fail)),?_⟩;refine ⟨_,rfl,?_⟩)))
   repeat (first | apply AWp.seq | apply AWp.region | (refine AWs.q rfl rfl ?_;first | (apply Gt.move;refine ⟨_,Qs.move (ao rfl),?_⟩) | (apply Gt.assign;refine ⟨_,Qs.assign (ao rfl),?_⟩) | (apply Gt.add;refine ⟨_,Qs.succ (ao rfl) (ao rfl) (by omega),?_⟩) | (apply Gt.bin;refine ⟨_,Qs.cmpF rfl (ao rfl) (ao rfl) (by first | (simp only [cmpP,List.length_cons,List.length_nil];omega) | (simp [cmpP];done) | (simp [cmpP];omega)),?_⟩) | (apply Gt.callv;refine ⟨_,Qs.call (ao rfl) (RAdd_pol (mulTo [] (P.take k) Q) (tms (tAt P k).c (tAt P k).m Q) (n*(N+N'+1)) (N+N') hb.sz ht2.sz (by omega) (by omega)) (by first | ((repeat (first | exact ArgsLe.nil | refine ArgsLe.cons rfl (D.le.refl _) ?_ | refine ArgsLe.cons rfl D.le_nil ?_));done) | fail),?_⟩)) | apply OnlyN.mk' | apply AWl.nil | apply Yn | apply AWp.skip | apply ABlock.normal | (apply Gc.cond;refine Cf ?_))
   refine ALoop.next (P.length - (k+1)) (by omega) ⟨k+1,by omega,rfl,rfl⟩ ?_
   exact AS.le_of (by repeat (first | exact FrLe.nil | refine Yd ?_ | refine FrLe.cons rfl (AVle.le (D.le_pol (mulTo_take hlt).symm)) ?_)) (by repeat (exact HpLe.nil))
  ·obtain rfl : k = P.length := by omega
   repeat (first | apply AWp.seq | apply AWp.region | (refine AWs.q rfl rfl ?_;first | (apply Gt.move;refine ⟨_,Qs.move (ao rfl),?_⟩) | (apply Gt.assign;refine ⟨_,Qs.assign (ao rfl),?_⟩) | (apply Gt.len;refine ⟨_,Qs.lenN rfl (tab_of rfl),?_⟩) | (apply Gt.bin;refine ⟨_,Qs.cmpF rfl (ao rfl) (ao rfl) (by first | (simp only [cmpP,List.length_cons,List.length_nil];omega) | (simp [cmpP];done) | (simp [cmpP];omega)),?_⟩)) | apply AWl.nil | apply Yn | apply AWp.exit | apply AWp.ret | apply AThen.exit | apply ABlock.hit | apply ALoop.exit | (apply Gc.cond;refine Cf ?_))
   exact Fin.ret (Rets.of2 (ResV.tmp rfl rfl) (ResV.tmp rfl rfl) (D.le.tup2 (D.le_pol (by rw [List.take_length];rfl)) (D.le.refl _)))
theorem RBy_pb {P Q:List Tm} {n N n' N':Nat} {d d':Int} (hP:PB P n N d) (hQ:PB Q n' N' d') (h0:0≤d) (h0':0≤d') (hd:d+d'≤65535) (hn0:n≤100000) (hn:n*n'+n'≤100000) (hN:n*(N+N'+1)+N+N'+1≤4398046511102):Abs Tryz.prog 47 [polD P,polD Q] (polD (pmul P Q)):=by
 refine Ab Tryz.func47 fun s0=>?_
 rw [Tryz.ntmps47]
 repeat (first | apply AWp.seq | apply AWp.region | (refine AWs.q rfl rfl ?_;first | (apply Gt.move;refine ⟨_,Qs.move (ao rfl),?_⟩) | (apply Gt.assign;refine ⟨_,Qs.assign (ao rfl),?_⟩) | (apply Gt.ext;refine ⟨_,Qs.ext (ao rfl) rfl,?_⟩) | (apply Gt.callv;refine ⟨_,Qs.call (ao rfl) (RPMul_pb hP hQ h0 h0' hd hn0 hn hN) (by first | ((repeat (first | exact ArgsLe.nil | refine ArgsLe.cons rfl (D.le.refl _) ?_ | refine ArgsLe.cons rfl D.le_nil ?_));done) | fail),?_⟩)) | apply AWl.nil | apply Yn | apply AWp.ret)
 exact Yf
theorem Abs.le {P : Program} {f:FuncId} {ds:List D} {r r':D} (h:Abs P f ds r) (hr:D.le r r'):Abs P f ds r' :=
 ⟨h.1,fun s vs h1 h2 h3=>(h.2 s vs h1 h2 h3).mono fun e w' ⟨v,he,s',hw,hl,hv⟩=>⟨v,he,s',hw,hl,hr _ _ hv⟩⟩
theorem PMul_pb {P Q:List Tm} {n N n' N':Nat} {d d':Int} (hP:PB P n N d) (hQ:PB Q n' N' d') (h0:0≤d) (h0':0≤d') (hd:d+d'≤65535) (hn:n*n'≤100000) (hN:N+N'+1≤10000000):Abs Tryz.prog 18 [polD P,polD Q] (tupD [polD (pmul P Q),ex (.int .i64 0)]) :=
 (PMul_abs P Q N N' hP.sz hQ.sz d d' hP.ex hQ.ex hd h0 h0' (Nat.le_trans (Nat.mul_le_mul hP.len hQ.len) hn) hN).le fun s v hv=>by
  obtain ⟨S,⟨h1,h2,_⟩,h3⟩:=hv
  have h3:(tupD [polD S,ex (.int .i64 0)]).rel s v:=h3
  rwa [polD_sim h1 (hP.mul hQ h0 h0').can (h2.trans (pmul_sim P Q).symm)] at h3
theorem PAdd_pb {P Q:List Tm} {n N n' N':Nat} {d d':Int} (hP:PB P n N d) (hQ:PB Q n' N' d') (hn:n+n'≤100000) (hN:N+N'+1≤4398046511104):Abs Tryz.prog 20 [polD P,polD Q] (polD (mrg P Q)) :=
 PAdd_abs P Q N N' hP.sz hQ.sz hN (Nat.le_trans (Nat.add_le_add hP.len hQ.len) hn)
theorem PSub_pb {P Q:List Tm} {n N n' N':Nat} {d d':Int} (hP:PB P n N d) (hQ:PB Q n' N' d') (hn:n+n'≤100000) (hN:N+N'+1≤4398046511104):Abs Tryz.prog 21 [polD P,polD Q] (polD (psub P Q)) :=
 PSub_abs P Q N N' hP.sz hQ.sz hN (Nat.le_trans (Nat.add_le_add hP.len hQ.len) hn)
theorem scl_one_neg {Q : List Tm} (hQ:Canon Q):SameL (sclL (-1:Int) Q) (neg Q):=by
 rw [sclL,if_neg (by decide)]
 induction Q with
 | nil=>trivial
 | cons t Q ih =>
  refine ⟨?_,fun i _=>?_,ih ⟨(List.pairwise_cons.1 hQ.1).2,fun u hu=>hQ.2 u (by simp [hu])⟩⟩
  ·show ((-1:Int):Rat)*t.c = -t.c
   have:((-1:Int):Rat) = -1:=rfl
   rw [this];grind
  ·show 0+t.m i = t.m i
   omega
theorem RSub_pb {P Q:List Tm} {n N n' N':Nat} {d d':Int} (hP:PB P n N d) (hQ:PB Q n' N' d') (hd:d'≤65535) (hn:n+n'≤100000) (hN:N+N'+2≤4398046511103):Abs Tryz.prog 57 [polD P,polD Q] (polD (psub P Q)):=by
 have hs:=scl_one_neg hQ.can
 have hc:=(hQ.neg.same hs.symm).can
 exact (RSub_abs P Q N N' hP.sz hQ.sz (hQ.ex.mono (Int.le_refl _) hd) hN (Nat.le_trans (Nat.add_le_add hP.len hQ.len) hn)).le (D.le.of_eq (polD_sim (mrg_canon hP.can hc) (mrg_canon hP.can hQ.neg.can) ((mrg_sim _ _).trans (((Sim.refl P).append hs.sim).trans (mrg_sim _ _).symm))))
theorem RSame_true {P Q:List Tm} (h:SameL P Q):Abs Tryz.prog 19 [polD P,polD Q] (ex (.bool true)):=by
 have:=RSame_abs P Q
 rwa [sameB_true.2 h] at this
theorem RSame_sim {P Q:List Tm} (hP:Canon P) (hQ:Canon Q) (h:Sim P Q):Abs Tryz.prog 19 [polD P,polD Q] (ex (.bool true)):=RSame_true (canon_unique hP hQ h)
theorem PValid_pb {P : List Tm} {n N:Nat} {d:Int} (h:PB P n N d) (hd:d≤65535) (hN:N≤1000000000) (hn:n≤1000000):Abs Tryz.prog 14 [polD P] (ex (.bool true)):=PValidP_abs P N h.can (h.ex.mono (Int.le_refl _) hd) h.sz hN (Nat.le_trans h.len hn)
theorem Rabs_abs (z : Int) (h0:-128≤z) (h1:z≤127):Abs Tryz.prog 103 [ex (.int .i8 z)] (ex (.int .i64 (z.natAbs:Nat))):=by
 by_cases hz:z<0
 ·refine Ab Tryz.func103 fun s0 => ?_
  rw [Tryz.ntmps103]
  repeat (first | refine AWs.q rfl rfl ?_;refine ⟨_,Qs.conv64 (ao rfl) (tab_of rfl) (tab_of rfl) (by omega) (by omega),?_⟩ | refine AWs.q rfl rfl ?_;refine ⟨_,Qs.neg (ao rfl) (by omega) (by omega),?_⟩ | apply AWp.seq | apply AWp.region | (refine AWs.q rfl rfl ?_;first | (apply Gt.move;refine ⟨_,Qs.move (ao rfl),?_⟩) | (apply Gt.assign;refine ⟨_,Qs.assign (ao rfl),?_⟩) | (apply Gt.bin;refine ⟨_,Qs.cmpT rfl (ao rfl) (ao rfl) (by first | (simp only [cmpP,List.length_cons,List.length_nil];omega) | (simp [cmpP];done) | (simp [cmpP];omega)),?_⟩)) | apply AWl.nil | apply Yn | apply AWp.ret | apply AThen.ret | (apply Gc.cond;refine Ct ?_))
  exact Fin.ret (Rets.of1 (ResV.tmp rfl rfl) (D.le.of_eq (by congr 2;omega)))
 ·refine Ab Tryz.func103 fun s0 => ?_
  rw [Tryz.ntmps103]
  repeat (first | refine AWs.q rfl rfl ?_;refine ⟨_,Qs.conv64 (ao rfl) (tab_of rfl) (tab_of rfl) (by omega) (by omega),?_⟩ | apply AWp.seq | apply AWp.region | (refine AWs.q rfl rfl ?_;first | (apply Gt.move;refine ⟨_,Qs.move (ao rfl),?_⟩) | (apply Gt.assign;refine ⟨_,Qs.assign (ao rfl),?_⟩) | (apply Gt.bin;refine ⟨_,Qs.cmpF rfl (ao rfl) (ao rfl) (by first | (simp only [cmpP,List.length_cons,List.length_nil];omega) | (simp [cmpP];done) | (simp [cmpP];omega)),?_⟩)) | apply AWl.nil | apply Yn | apply AWp.skip | apply AWp.ret | (apply Gc.cond;refine Cf ?_))
  exact Fin.ret (Rets.of1 (ResV.tmp rfl rfl) (D.le.of_eq (by congr 2;omega)))
def lft (deg : Int) (r:Nat→Int):Nat→Int
 | 0=>deg
 | j+1=>lft deg r j - ((r (j+1)).natAbs:Nat) % (lft deg r j+1)
theorem lft_in {deg : Int} (r:Nat→Int) (h:0≤deg):∀ j,0≤lft deg r j∧lft deg r j≤deg
 | 0=>⟨h,Int.le_refl _⟩
 | j+1=>by
  have ih:=lft_in r h j
  have h1:=Int.emod_nonneg ((r (j+1)).natAbs:Int) (show lft deg r j+1 ≠ 0 by omega)
  have h2:=Int.emod_lt_of_pos ((r (j+1)).natAbs:Int) (show 0<lft deg r j+1 by omega)
  simp only [lft]
  omega
def expE (deg : Int) (r:Nat→Int) (n:Nat):Nat→Int:=fun j=>if j<n then ((r (j+1)).natAbs:Nat) % (lft deg r j+1) else 0
theorem expE_in {deg : Int} (r:Nat→Int) (h:0≤deg) (n:Nat):In8 (expE deg r n) 0 deg:=fun j _=>by
 unfold expE
 have ih:=lft_in r h j
 split
 ·have h1 := Int.emod_nonneg ((r (j + 1)).natAbs : Int) (show lft deg r j + 1 ≠ 0 by omega)
  have h2:=Int.emod_lt_of_pos ((r (j+1)).natAbs:Int) (show 0<lft deg r j+1 by omega)
  omega
 ·omega
theorem expE_set (deg : Int) (r:Nat→Int) (k:Nat):setM (expE deg r k) k (((r (k+1)).natAbs:Nat) % (lft deg r k+1)) = expE deg r (k+1):=by
 funext j
 simp only [setM,expE]
 rcases Nat.lt_trichotomy j k with h | h | h
 ·rw [if_neg (by omega),if_pos h,if_pos (by omega)]
 ·subst h;simp
 ·rw [if_neg (by omega),if_neg (by omega),if_neg (by omega)]
def rawT (deg : Int) (n:Nat) (r:Nat→Int):List Tm:=sclL ((Int.tmod (r 0) 4:Int):Rat) [⟨1,expE deg r n⟩]
def madeTo (deg : Int) (n:Nat) (X:List (Nat→Int)):List Tm:=X.foldl (fun a r=>mrg a (rawT deg n r)) []
def madeP (X : List (Nat→Int)) (n:Nat) (deg:Int) (terms:Nat):List Tm:=madeTo deg (min n 4) (X.take (min X.length terms))
theorem tmod4 (z : Int):-3≤Int.tmod z 4∧Int.tmod z 4≤3:=by
 rcases Int.le_total 0 z with h | h
 ·rw [Int.tmod_eq_emod_of_nonneg h];omega
 ·have:Int.tmod z 4 = -((-z) % 4):=by
   rw [← Int.tmod_eq_emod_of_nonneg (by omega),Int.neg_tmod,Int.neg_neg]
  omega
theorem sclL_pb {c : Rat} {P:List Tm} {n N N0:Nat} {d:Int} (h:PB P n N d) (hs:RSz c N0):PB (sclL c P) n (N0+N) d:=by
 unfold sclL
 split
 ·exact PB.nil
 ·rename_i hc
  have:=tms_pb (t:=⟨c,fun _=>0⟩) (d0:=0) h hc hs fun i _=>⟨Int.le_refl _,Int.le_refl _⟩
  rwa [Int.zero_add] at this
theorem one_pb {m : Nat→Int} {d:Int} (h:In8 m 0 d):PB [⟨1,m⟩] 1 1 d:=PB.single (show (1:Rat) ≠ 0 by decide) (rsz_one) h
where rsz_one : RSz (1:Rat) 1:=rsz_sm (x:=1) (by omega) (by omega)
theorem tmod_sz (z : Int):RSz ((Int.tmod z 4:Int):Rat) 1:=by
 have:=tmod4 z
 exact rsz_sm (by omega) (by omega)
theorem rawT_pb {deg : Int} (n:Nat) (r:Nat→Int) (h:0≤deg):PB (rawT deg n r) 1 2 deg:=sclL_pb (one_pb (expE_in r h n)) (tmod_sz _)
theorem madeTo_pb {deg : Int} {n:Nat} (h:0≤deg):∀ (X:List (Nat→Int)) (A:List Tm) (k K:Nat),PB A k K deg→PB (X.foldl (fun a r=>mrg a (rawT deg n r)) A) (k+X.length) (K+X.length*3) deg
 | [],A,k,K,h=>h
 | r :: X,A,k,K,hA=>by
  have h1:=(hA.add (rawT_pb n r h)).mono (Nat.le_refl _) (Nat.le_refl _) (Int.max_le.2 ⟨Int.le_refl _,Int.le_refl _⟩)
  have:=madeTo_pb (n:=n) h X _ _ _ h1
  exact this.mono (by simp;omega) (by simp;omega) (Int.le_refl _)
theorem madeP_pb (X : List (Nat→Int)) (n:Nat) {deg:Int} (terms:Nat) (h:0≤deg):PB (madeP X n deg terms) terms (terms*3) deg:=by
 have:=madeTo_pb (n:=min n 4) h (X.take (min X.length terms)) [] 0 0 PB.nil
 have hl:(X.take (min X.length terms)).length≤terms:=by rw [List.length_take];omega
 exact this.mono (by omega) (by omega) (Int.le_refl _)
theorem madeTo_take_pb (X : List (Nat→Int)) (n:Nat) {deg:Int} {terms k:Nat} (h:0≤deg) (hk:k≤terms):PB (madeTo deg n (X.take k)) terms (terms*3) deg:=by
 have:=madeTo_pb (n:=n) h (X.take k) [] 0 0 PB.nil
 have hl:(X.take k).length≤terms:=by rw [List.length_take];omega
 exact this.mono (by omega) (by omega) (Int.le_refl _)
theorem foldl_i5 {α : Type} (f:α→(Nat→Int)→α) (b:α) {X:List (Nat→Int)} {k:Nat} (h:k<X.length):(X.take (k+1)).foldl f b = f ((X.take k).foldl f b) (i5At X k):=by
 have e:X.take (k+1) = X.take k ++ [i5At X k]:=by
  rw [List.take_add_one,List.getElem?_eq_getElem h,i5At,List.getD_eq_getElem?_getD,List.getElem?_eq_getElem h]
  rfl
 rw [e,List.foldl_append]
 rfl
def Raw8 (X : List (Nat→Int)):Prop:=∀ r∈X,∀ j,j<5→-128≤r j∧r j≤127
theorem RMade_abs (T : Nat) (X:List (Nat→Int)) (n terms:Nat) (deg:Int) (hX:Raw8 X) (hn:n≤8) (ht:terms≤1000) (h0:0≤deg) (hd:deg≤1000):Abs Tryz.prog 41 [agD [r5D T X],ex (.int .i64 (n:Nat)),ex (.int .i64 deg),ex (.int .i64 (terms:Nat))] (polD (madeP X n deg terms)):=by
 refine Ab Tryz.func41 fun s0=>?_
 rw [Tryz.ntmps41]
 repeat (first | apply AWp.seq | apply AWp.region | (apply Ga.box;refine AWs.bx (ao rfl) rfl rfl rfl rfl ?_) | (apply Ga.b0;refine AWs.b0 (tab_of rfl) (tab_of rfl) rfl rfl rfl rfl rfl ?_) | (refine AWs.q rfl rfl ?_;(apply Gt.assign;refine ⟨_,Qs.assign (ao rfl),?_⟩)) | apply AWl.nil | apply Yn | apply AWp.block)
 refine AWp.loop (fun mz σ=>∃ k,k≤min X.length terms∧mz = min X.length terms - k∧σ = ⟨[(1,.d (ex (.int .i64 (n:Nat)))),(2,.d (ex (.int .i64 deg))),(3,.d (ex (.int .i64 (terms:Nat)))),(4,.ptr 0 0),(9,.d (polD (madeTo deg (min n 4) (X.take k)))),(10,.d (ex (.int .i64 (k:Nat))))],[.var 37 ([r5D T X].map .d)]⟩) ?le ⟨0,by omega,rfl,rfl⟩ ?round
 case le=>exact AS.le_of (by repeat (first | exact FrLe.nil | refine Yd ?_ | refine Yp ?_ | refine FrLe.cons rfl (AVle.ownD rfl (D.le.refl _)) ?_)) (by repeat (first | exact HpLe.nil | apply Yv))
 case round =>
  rintro mz _ ⟨k,hk,rfl,rfl⟩
  by_cases hlt:k<min X.length terms
  ·have hkX : k < X.length := by omega
   have hkt:k<terms:=by omega
   repeat (first | apply AWp.seq | apply AWp.region | (apply Ga.alloc;refine AWs.al (tab_of rfl) rfl rfl rfl rfl rfl rfl ?_) | (apply Ga.store;refine Sf ?_) | (refine AWs.q rfl rfl ?_;first | (apply Gt.move;refine ⟨_,Qs.move (ao rfl),?_⟩) | (apply Gt.assign;refine ⟨_,Qs.assign (ao rfl),?_⟩) | (apply Gt.load;refine ⟨_,Qs.ldD1 (ao rfl) rfl (tab_of rfl) rfl rfl,?_⟩) | (apply Gt.fieldAddr;refine ⟨_,Qs.fldP (ao rfl) (tab_of rfl) rfl (tab_of rfl) rfl,?_⟩) | (apply Gt.len;refine ⟨_,Qs.lenN rfl (tab_of rfl),?_⟩) | (apply Gt.bin;refine ⟨_,Qs.cmpT rfl (ao rfl) (ao rfl) (by first | (simp only [cmpP,List.length_cons,List.length_nil];omega) | (simp [cmpP];done) | (simp [cmpP];omega)),?_⟩) | (apply Gt.pick;refine ⟨_,Qs.pickT (ao rfl) (ao rfl),?_⟩) | (apply Gt.build;(refine Bq.arr (tab_of rfl) (tab_of rfl) rfl rfl ?_;(repeat ((first | refine ⟨_,PartOk.ag (ao rfl),?_⟩ | refine ⟨_,PartOk.one rfl (by first | exact One.ex_ rfl | exact One.sl | exact One.ep),?_⟩);refine ⟨_,rfl,?_⟩));refine ⟨_,rfl,?_⟩))) | (refine AWs.qG rfl rfl rfl rfl rfl ?_;first | (apply Gt.move;refine ⟨_,Qs.move (ao rfl),?_⟩) | (apply Gt.bin;refine ⟨_,Qs.cmpT rfl (ao rfl) (ao rfl) (by first | (simp only [cmpP,List.length_cons,List.length_nil];omega) | (simp [cmpP];done) | (simp [cmpP];omega)),?_⟩)) | apply AWl.nil | apply Yn | apply AWp.block | apply AWp.skip | (apply Gc.cond;refine Ct ?_))
   refine AWp.loop (fun mz σ=>∃ i,i≤min n 4∧mz = min n 4 - i∧σ = ⟨[(1,.d (ex (.int .i64 (n:Nat)))),(2,.d (ex (.int .i64 deg))),(3,.d (ex (.int .i64 (terms:Nat)))),(4,.ptr 0 0),(9,.d (polD (madeTo deg (min n 4) (X.take k)))),(10,.d (ex (.int .i64 (k:Nat)))),(11,.ptr 1 0),(12,.d (ex (.int .i64 (lft deg (i5At X k) i)))),(13,.d (ex (.int .i64 (i:Nat))))],[.var 37 ([r5D T X].map .d),.var 31 ((monC (expE deg (i5At X k) i)).map .d)]⟩) ?lei ⟨0,by omega,rfl,rfl⟩ ?roundi
   case lei=>exact AS.le_of (by repeat (first | exact FrLe.nil | refine Yd ?_ | refine Yp ?_)) (by repeat (first | exact HpLe.nil | apply Yv))
   case roundi =>
    rintro mz _ ⟨i,hi,rfl,rfl⟩
    by_cases hlti:i<min n 4
    ·have hl:=lft_in (i5At X k) h0 i
     have hr:=hX _ (i5At_mem hkX) (i+1) (by omega)
     have hs:setM (expE deg (i5At X k) i) i (((i5At X k (i+1)).natAbs:Nat) % (lft deg (i5At X k) i+1)) i = ((i5At X k (i+1)).natAbs:Nat) % (lft deg (i5At X k) i+1):=if_pos rfl
     have he1:=Int.emod_nonneg ((i5At X k (i+1)).natAbs:Int) (show lft deg (i5At X k) i+1 ≠ 0 by omega)
     have he2:=Int.emod_lt_of_pos ((i5At X k (i+1)).natAbs:Int) (show 0<lft deg (i5At X k) i+1 by omega)
     repeat (first | refine AWs.q rfl rfl ?_;refine ⟨_,Qs.succL (ao rfl) (ao rfl) (by omega),?_⟩ | refine AWs.q rfl rfl ?_;refine ⟨_,Qs.ldEX1 (ao rfl) (tab_of rfl) rfl (CellAt.r5 (show i+1<5 by omega)),?_⟩ | apply AWp.seq | apply AWp.region | (apply Ga.store;refine AWs.stX1 (ao rfl) (ao rfl) rfl (tab_of rfl) (by first | exact One.ex_ rfl | exact One.sl | exact One.ep) (SetAt.mon (by first | omega | (simp;omega))) rfl ?_) | (refine AWs.q rfl rfl ?_;first | (apply Gt.move;refine ⟨_,Qs.move (ao rfl),?_⟩) | (apply Gt.assign;refine ⟨_,Qs.assign (ao rfl),?_⟩) | (apply Gt.load;first | refine ⟨_,Qs.ldD1 (ao rfl) rfl (tab_of rfl) rfl rfl,?_⟩ | refine ⟨_,Qs.ldX1 (ao rfl) rfl (tab_of rfl) rfl (CellAt.mon0 (by first | omega | (simp;omega))),?_⟩) | (apply Gt.fieldAddr;refine ⟨_,Qs.fldP (ao rfl) (tab_of rfl) rfl (tab_of rfl) rfl,?_⟩) | (apply Gt.indexAddr;first | refine ⟨_,Qs.indexN rfl (ao rfl) (tab_of rfl) (tab_of rfl) rfl (by first | omega | (simp;omega)),?_⟩ | refine ⟨_,Qs.ixP (ao rfl) (ao rfl) (tab_of rfl) (tab_of rfl) (by first | omega | (simp;omega)),?_⟩ | refine ⟨_,Qs.ixE (ao rfl) (ao rfl) (tab_of rfl) (tab_of rfl) (by first | omega | (simp;omega)),?_⟩) | (apply Gt.add;first | refine ⟨_,Qs.succ (ao rfl) (ao rfl) (by omega),?_⟩ | refine ⟨_,Qs.add (ao rfl) (ao rfl) (by omega) (by omega),?_⟩) | (apply Gt.sub;refine ⟨_,Qs.sub (ao rfl) (ao rfl) (by omega) (by omega),?_⟩) | (apply Gt.rem;refine ⟨_,Qs.rem (ao rfl) (ao rfl) (by omega) (by omega),?_⟩) | (apply Gt.bin;refine ⟨_,Qs.cmpT rfl (ao rfl) (ao rfl) (by first | (simp only [cmpP,List.length_cons,List.length_nil];omega) | (simp [cmpP];done) | (simp [cmpP];omega)),?_⟩) | (apply Gt.pick;refine ⟨_,Qs.pickT (ao rfl) (ao rfl),?_⟩) | (apply Gt.callv;refine ⟨_,Qs.call (ao rfl) (Rabs_abs (i5At X k (i+1)) hr.1 hr.2) (by first | ((repeat (first | exact ArgsLe.nil | refine ArgsLe.cons rfl (D.le.refl _) ?_ | refine ArgsLe.cons rfl D.le_nil ?_));done) | fail),?_⟩)) | (refine AWs.qG rfl rfl rfl rfl rfl ?_;first | (apply Gt.move;refine ⟨_,Qs.move (ao rfl),?_⟩) | (apply Gt.bin;refine ⟨_,Qs.cmpT rfl (ao rfl) (ao rfl) (by first | (simp only [cmpP,List.length_cons,List.length_nil];omega) | (simp [cmpP];done) | (simp [cmpP];omega)),?_⟩)) | apply AWl.nil | apply Yn | apply AWp.block | apply AWp.skip | apply ABlock.normal | (apply Gc.cond;refine Ct ?_))
     refine ALoop.next (min n 4 - (i+1)) (by omega) ⟨i+1,by omega,rfl,rfl⟩ ?_
     exact AS.le_of (by repeat (first | exact FrLe.nil | refine Yd ?_ | refine Yp ?_ | refine FrLe.cons rfl (AVle.int (by rw [hs];rfl)) ?_)) (by repeat (first | exact HpLe.nil | refine HpLe.cons (OwLe.varD (by rw [expE_set])) ?_ | apply Yv))
    ·obtain rfl : i = min n 4 := by omega
     have hrm:=i5At_mem hkX
     have hr0:=hX _ hrm 0 (by omega)
     have h4:=tmod4 (i5At X k 0)
     have h4':-3≤Int.tmod (X.getD k default 0) 4∧Int.tmod (X.getD k default 0) 4≤3:=h4
     have hb:=madeTo_take_pb X (min n 4) (terms:=terms) h0 (Nat.le_of_lt hkt)
     have hbl:=hb.len
     have ht:=rawT_pb (min n 4) (i5At X k) h0
     have htl:=ht.len
     have h1:=one_pb (expE_in (i5At X k) h0 (min n 4))
     have hz:(i5At X k 0).tmod 4 = IntKind.i64.wrap ((i5At X k 0).tmod 4):=(IntWalk.i64_in _ (by omega)).symm
     have hst:madeTo deg (min n 4) (X.take (k+1)) = mrg (madeTo deg (min n 4) (X.take k)) (rawT deg (min n 4) (i5At X k)):=foldl_i5 (fun a r=>mrg a (rawT deg (min n 4) r)) [] hkX
     rcases (show n≤4∨4<n by omega) with hn4 | hn4
     all_goals
      repeat (first | apply AWp.seq | apply AWp.region | (refine AWs.q rfl rfl ?_;first | (apply Gt.move;refine ⟨_,Qs.move (ao rfl),?_⟩) | (apply Gt.bin;first | refine ⟨_,Qs.cmpT rfl (ao rfl) (ao rfl) (by first | (simp only [cmpP,List.length_cons,List.length_nil];omega) | (simp [cmpP];done) | (simp [cmpP];omega)),?_⟩ | refine ⟨_,Qs.cmpF rfl (ao rfl) (ao rfl) (by first | (simp only [cmpP,List.length_cons,List.length_nil];omega) | (simp [cmpP];done) | (simp [cmpP];omega)),?_⟩) | (apply Gt.pick;first | refine ⟨_,Qs.pickT (ao rfl) (ao rfl),?_⟩ | refine ⟨_,Qs.pickF (ao rfl) (ao rfl),?_⟩)) | refine AWs.sG rfl rfl rfl rfl rfl ?_ | (refine AWs.qG rfl rfl rfl rfl rfl ?_;first | (apply Gt.move;refine ⟨_,Qs.move (ao rfl),?_⟩) | (apply Gt.bin;refine ⟨_,Qs.cmpF rfl (ao rfl) (ao rfl) (by first | (simp only [cmpP,List.length_cons,List.length_nil];omega) | (simp [cmpP];done) | (simp [cmpP];omega)),?_⟩)) | apply AWl.nil | apply Yn | apply AWp.exit | apply AThen.exit | apply ABlock.hit | apply ALoop.exit | (apply Gc.cond;refine Cf ?_))
      refine AWp.dr' (DrawOk.self (by kernel_rfl)) [[],[],[(58,1)],[],[(59,2),(60,3)],[(61,4)],[(62,5)],[(63,6)],[(64,7)],[(65,8)],[],[],[(67,10),(68,11)],[(69,12)],[(66,9),(70,13)],[(57,0),(71,14)]] [[],[],[1],[],[1,2,3],[1,2,3,4],[1,2,3,4,5],[1,2,3,4,5,6],[1,2,3,4,5,6,7],[1,2,3,4,5,6,7,8],[1,2,3,4,5,6,7,8,9],[],[1,2,3,4,5,6,7,8,9,10,11],[1,2,3,4,5,6,7,8,9,10,11,12],[1,2,3,4,5,6,7,8,9,10,11,12,13],[0,1,2,3,4,5,6,7,8,9,10,11,12,13,14]] rfl (by kernel_rfl) (by kernel_rfl) (by kernel_rfl) ?_
      repeat (first | refine ⟨_,rfl,?_⟩ | (apply Gh.move;(refine ⟨_,HStep.q rfl (Qs.move (ah rfl)),?_⟩;refine ⟨_,rfl,?_⟩)) | (apply Gh.load;first | (refine ⟨_,HStep.q rfl (Qs.ldD (ah rfl) rfl (tab_of rfl) rfl rfl),?_⟩;refine ⟨_,rfl,?_⟩) | (refine ⟨_,HStep.q rfl (Qs.ldD1 (ah rfl) rfl (tab_of rfl) rfl rfl),?_⟩;refine ⟨_,rfl,?_⟩) | (refine ⟨_,HStep.q rfl (Qs.ldE1 (ah rfl) (tab_of rfl) rfl rfl),?_⟩;refine ⟨_,rfl,?_⟩)) | (apply Gh.fieldAddr;(refine ⟨_,HStep.q rfl (Qs.fldP (ah rfl) (tab_of rfl) rfl (tab_of rfl) rfl),?_⟩;refine ⟨_,rfl,?_⟩)) | (apply Gh.indexAddr;first | (refine ⟨_,HStep.q rfl (Qs.indexN rfl (ah rfl) (tab_of rfl) (tab_of rfl) rfl (by first | omega | (simp;omega))),?_⟩;refine ⟨_,rfl,?_⟩) | (refine ⟨_,HStep.q rfl (Qs.ixL (ah rfl) (ah rfl) (tab_of rfl) (tab_of rfl) (by decide) (by decide) rfl),?_⟩;refine ⟨_,rfl,?_⟩)) | (apply Gh.rem;(refine ⟨_,HStep.q rfl (Qs.remT (ah rfl) (ah rfl) (by decide)),?_⟩;refine ⟨_,rfl,?_⟩)) | (apply Gh.bslice;(refine ⟨_,HStep.q rfl (Bq.slice1 (ah rfl) (tab_of rfl) (tab_of rfl) rfl rfl rfl rfl rfl),?_⟩;refine ⟨_,rfl,?_⟩)) | (apply Gh.conv;(refine ⟨_,HStep.q rfl (Qs.conv64 (ah rfl) (tab_of rfl) (tab_of rfl) (by omega) (by omega)),?_⟩;refine ⟨_,rfl,?_⟩)) | (apply Gh.build;(refine Hq rfl ?_;refine Bq.build (tab_of rfl) rfl rfl rfl ?_;(repeat ((first | refine ⟨_,PartOk.ag (ah rfl),?_⟩ | refine ⟨_,PartOk.one rfl (by first | exact One.ex_ rfl | exact One.sl | exact One.ep),?_⟩);refine ⟨_,rfl,?_⟩));refine ⟨_,rfl,?_⟩;refine ⟨_,rfl,?_⟩)) | (apply Gh.callv;first | (refine ⟨_,HStep.q rfl (Qs.call (ah rfl) (RWhole_abs ((i5At X k 0).tmod 4) (by omega) (by omega)) (by first | ((repeat (first | exact ArgsLe.nil | refine ArgsLe.cons rfl (D.le.refl _) ?_ | refine ArgsLe.cons rfl D.le_nil ?_));done) | fail)),?_⟩;refine ⟨_,rfl,?_⟩) | (refine ⟨_,HStep.q rfl (Qs.call (ah rfl) (RWhole_abs 1 (by omega) (by omega)) (by first | ((repeat (first | exact ArgsLe.nil | refine ArgsLe.cons rfl (D.le.refl _) ?_ | refine ArgsLe.cons rfl D.le_nil ?_));done) | fail)),?_⟩;refine ⟨_,rfl,?_⟩) | (refine ⟨_,HStep.q rfl (Qs.call (ah rfl) (RScale_abs ((Int.tmod (i5At X k 0) 4:Int):Rat) [⟨1,expE deg (i5At X k) (min n 4)⟩] 1 1 (tmod_sz _) h1.sz (h1.ex.mono (Int.le_refl _) (by omega)) (by simp) (by omega)) (by first | ((repeat (first | exact ArgsLe.nil | refine ArgsLe.cons rfl (D.le.refl _) ?_ | refine ArgsLe.cons rfl D.le_nil ?_));done) | fail)),?_⟩;refine ⟨_,rfl,?_⟩) | (refine ⟨_,HStep.q rfl (Qs.call (ah rfl) (RAdd_pol (madeTo deg (min n 4) (X.take k)) (rawT deg (min n 4) (i5At X k)) (terms*3) 2 hb.sz ht.sz (by omega) (by omega)) (by first | ((repeat (first | exact ArgsLe.nil | refine ArgsLe.cons rfl (D.le.refl _) ?_ | refine ArgsLe.cons rfl D.le_nil ?_));done) | fail)),?_⟩;refine ⟨_,rfl,?_⟩)))
      repeat (first | apply AWp.region | (refine AWs.q rfl rfl ?_;first | (apply Gt.move;refine ⟨_,Qs.move (ao rfl),?_⟩) | (apply Gt.assign;refine ⟨_,Qs.assign (ao rfl),?_⟩) | (apply Gt.add;refine ⟨_,Qs.succ (ao rfl) (ao rfl) (by omega),?_⟩)) | apply AWl.nil | apply Yn | apply ABlock.normal)
      refine ALoop.next (min X.length terms - (k+1)) (by omega) ⟨k+1,by omega,rfl,rfl⟩ ?_
      exact AS.le_of (by repeat (first | exact FrLe.nil | refine Yd ?_ | refine Yp ?_ | refine FrLe.cons rfl (AVle.le (D.le_pol hst.symm)) ?_)) (by repeat (first | exact HpLe.nil | apply Yv))
  ·obtain rfl : k = min X.length terms := by omega
   rcases (show X.length≤terms∨terms<X.length by omega) with ht | ht
   all_goals
    repeat (first | apply AWp.seq | apply AWp.region | (refine AWs.q rfl rfl ?_;first | (apply Gt.move;refine ⟨_,Qs.move (ao rfl),?_⟩) | (apply Gt.assign;refine ⟨_,Qs.assign (ao rfl),?_⟩) | (apply Gt.load;refine ⟨_,Qs.ldD1 (ao rfl) rfl (tab_of rfl) rfl rfl,?_⟩) | (apply Gt.fieldAddr;refine ⟨_,Qs.fldP (ao rfl) (tab_of rfl) rfl (tab_of rfl) rfl,?_⟩) | (apply Gt.len;refine ⟨_,Qs.lenN rfl (tab_of rfl),?_⟩) | (apply Gt.bin;first | refine ⟨_,Qs.cmpT rfl (ao rfl) (ao rfl) (by first | (simp only [cmpP,List.length_cons,List.length_nil];omega) | (simp [cmpP];done) | (simp [cmpP];omega)),?_⟩ | refine ⟨_,Qs.cmpF rfl (ao rfl) (ao rfl) (by first | (simp only [cmpP,List.length_cons,List.length_nil];omega) | (simp [cmpP];done) | (simp [cmpP];omega)),?_⟩) | (apply Gt.pick;first | refine ⟨_,Qs.pickT (ao rfl) (ao rfl),?_⟩ | refine ⟨_,Qs.pickF (ao rfl) (ao rfl),?_⟩)) | refine AWs.sG rfl rfl rfl rfl rfl ?_ | (refine AWs.qG rfl rfl rfl rfl rfl ?_;first | (apply Gt.move;refine ⟨_,Qs.move (ao rfl),?_⟩) | (apply Gt.bin;refine ⟨_,Qs.cmpF rfl (ao rfl) (ao rfl) (by first | (simp only [cmpP,List.length_cons,List.length_nil];omega) | (simp [cmpP];done) | (simp [cmpP];omega)),?_⟩)) | apply AWl.nil | apply Yn | apply AWp.exit | apply AWp.ret | apply AThen.exit | apply ABlock.hit | apply ALoop.exit | (apply Gc.cond;refine Cf ?_))
    exact Yf
def degL (P : List Tm):Int:=P.foldl (fun d t=>max d (sumTo t.m 8)) (-1)
theorem degL_take {P : List Tm} {k:Nat} (h:k<P.length):degL (P.take (k+1)) = max (degL (P.take k)) (sumTo (tAt P k).m 8):=foldl_tAt (fun d t=>max d (sumTo t.m 8)) (-1) h
theorem PDeg_abs (P : List Tm) (hP:PIn P 0 65535) (hn:P.length≤1000000):Abs Tryz.prog 37 [polD P] (ex (.int .i64 (degL P))):=by
 refine Ab Tryz.func37 fun s0=>?_
 rw [Tryz.ntmps37]
 apply Y1;refine Wa ?_;apply Y0;apply Y1;refine Wa ?_;apply Y0;apply AWp.seq;apply Y1;refine Wm ?_;refine Wq Qz.lenN ?_;refine Wm ?_;apply Y0;apply AWp.block
 refine AWp.loop (fun mz σ=>∃ k,k≤P.length∧mz = P.length - k∧σ = ⟨[(3,.d (ex (.int .i64 (degL (P.take k))))),(6,.d (polD P)),(7,.d (ex (.int .i64 (P.length:Nat)))),(8,.d (ex (.int .i64 (k:Nat))))],[]⟩) ?le ⟨0,by omega,rfl,rfl⟩ ?round
 case le=>exact AS.le_of (by refine Yd ?_;refine Yd ?_;refine Yd ?_;refine Yd ?_;exact FrLe.nil) (by exact HpLe.nil)
 case round =>
  rintro mz _ ⟨k,hk,rfl,rfl⟩
  by_cases hlt:k<P.length
  ·have hin:=hP _ (tAt_mem hlt)
   have hst:=degL_take hlt
   apply Y1;refine Wq Qz.cmpT ?_;apply Y0;apply AWp.seq;refine Ct ?_;apply Ys;apply AWp.seq;apply AWp.block;apply Y1;refine Wq Qz.indexN ?_;refine Wq Qz.loadEf ?_;refine AWs.al (tab_of rfl) rfl rfl rfl rfl rfl rfl ?_;refine Sf ?_;apply Y0;apply AWp.region;refine Wm ?_;refine Wq Qz.fldP ?_;refine Wq Qz.ldD ?_;refine Wq (Qz.call (mDegree_abs (tAt P k).m (hin.mono (by omega) (by omega)))) ?_;refine Wq Qz.max ?_;refine Wa ?_;apply AWl.nil;apply ABlock.normal;apply Yn;apply AWp.region;refine Wq Qz.succ ?_;refine Wm ?_;apply AWl.nil
   refine ALoop.next (P.length - (k+1)) (by omega) ⟨k+1,by omega,rfl,rfl⟩ ?_
   exact AS.le_of (by refine FrLe.cons rfl (AVle.int hst.symm) ?_;refine Yd ?_;refine Yd ?_;refine Yd ?_;exact FrLe.nil) (by exact HpLe.nil)
  ·obtain rfl : k = P.length := by omega
   apply Y1;refine Wq Qz.cmpF ?_;apply Y0;apply AWp.seq;refine Cf ?_;apply AWp.exit;apply AThen.exit;apply ALoop.exit;apply ABlock.hit;apply Yn;apply Y1;refine Wm ?_;refine Wa ?_;apply Y0;apply AWp.ret
   exact Fin.ret (Rets.of1 (ResV.tmp rfl rfl) (D.le.of_eq (by rw [List.take_length])))
theorem mulL_nil_right (P : List Tm):mulL P [] = []:=by simp [mulL]
theorem sub_sim {P Q P' Q':List Tm} (h:Sim P P') (k:Sim Q Q'):Sim (psub P Q) (P' ++ neg Q'):=(mrg_sim _ _).trans (h.append (neg_sim k))
theorem add_sim {P Q P' Q':List Tm} (h:Sim P P') (k:Sim Q Q'):Sim (mrg P Q) (P' ++ Q'):=(mrg_sim _ _).trans (h.append k)
theorem mul_sim {P Q P' Q':List Tm} (h:Sim P P') (k:Sim Q Q'):Sim (pmul P Q) (mulL P' Q'):=(pmul_sim _ _).trans (h.mul k)
theorem constL_one : constL (1:Int) = [⟨1,fun _=>0⟩]:=by
 rw [constL,if_neg (by decide)]
 rfl
theorem pmul_comm (P Q:List Tm):Sim (pmul P Q) (pmul Q P):=(pmul_sim _ _).trans ((mulL_comm P Q).trans (pmul_sim _ _).symm)
theorem got_abs (P : List Tm):Abs Tryz.prog 17 [polD P,ex (.int .i64 0)] (polD P):=by
 refine Ab Tryz.func17 fun s0=>?_
 rw [Tryz.ntmps17]
 repeat (first | apply AWp.seq | apply AWp.region | (refine AWs.q rfl rfl ?_;first | (apply Gt.move;refine ⟨_,Qs.move (ao rfl),?_⟩) | (apply Gt.assign;refine ⟨_,Qs.assign (ao rfl),?_⟩) | (apply Gt.bin;refine ⟨_,Qs.cmpF rfl (ao rfl) (ao rfl) (by first | (simp only [cmpP,List.length_cons,List.length_nil];omega) | (simp [cmpP];done) | (simp [cmpP];omega)),?_⟩)) | apply AWl.nil | apply Yn | apply AWp.skip | apply AWp.ret | (apply Gc.cond;refine Cf ?_))
 exact Yf
theorem poly_abs (T : Nat) (X:List (Nat→Int)) (hX:Raw8 X):Abs Tryz.prog 16 [agD [r5D T X]] (polD (madeP X 4 5 6)):=by
 refine Ab Tryz.func16 fun s0=>?_
 rw [Tryz.ntmps16]
 repeat (first | apply AWp.seq | apply AWp.region | (apply Ga.box;refine AWs.bx (ao rfl) rfl rfl rfl rfl ?_) | (refine AWs.q rfl rfl ?_;first | (apply Gt.assign;refine ⟨_,Qs.assign (ao rfl),?_⟩) | (apply Gt.load;refine ⟨_,Qs.ldD (ao rfl) rfl (tab_of rfl) rfl rfl,?_⟩) | (apply Gt.callv;refine ⟨_,Qs.call (ao rfl) (RMade_abs T X 4 6 5 hX (by omega) (by omega) (by omega) (by omega)) (by first | ((repeat (first | exact ArgsLe.nil | refine ArgsLe.cons rfl (D.le.refl _) ?_ | refine ArgsLe.cons rfl D.le_nil ?_));done) | fail),?_⟩)) | apply AWl.nil | apply Yn | apply AWp.ret)
 exact Yf
def xT : Tm:=⟨1,unitE 0⟩
def yT : Tm:=⟨1,unitE 1⟩
def yyT : Tm:=⟨1*1,add8 (unitE 1) (unitE 1)⟩
theorem var_pb (i : Nat):PB [⟨1,unitE i⟩] 1 1 1:=one_pb unitE_in
theorem one_pol : PB (constL (1:Int)) 1 1 1:=constL_pb (rsz_sm (by omega) (by omega)) (by omega)
theorem pmul_yy : pmul [yT] [yT] = [yyT]:=by
 show mrg [] [yyT] = [yyT]
 rw [nil_mrg]
theorem sum_xyy : mrg [xT] [yyT] = [xT,yyT]:=by
 rw [mrg_gt (show lx xT.m yyT.m = 1 by decide),nil_mrg]
theorem yy_pb : PB [yyT] 1 3 2:=by
 rw [← pmul_yy]
 exact (var_pb 1).mul (var_pb 1) (by omega) (by omega)
theorem ones_in (i : Nat) (hi:i<8):-1000≤onesOf 255 i∧onesOf 255 i≤1000:=by
 unfold onesOf
 omega
theorem lead_xyy : leadF [onesOf 255] xT [yyT] = yyT:=by
 show upT [onesOf 255] xT yyT = yyT
 rw [upT,if_pos (by decide)]
theorem square_sim : Sim (pmul (mrg [xT] (constL (1:Int))) (psub [xT] (constL (1:Int)))) (psub (pmul [xT] [xT]) (constL (1:Int))):=by
 refine (mul_sim (add_sim (Sim.refl _) (Sim.refl _)) (sub_sim (Sim.refl _) (Sim.refl _))).trans (Sim.symm ((sub_sim (pmul_sim _ _) (Sim.refl _)).trans ?_))
 intro f hf
 rw [constL_one]
 simp only [mulL,neg,fT,xT,List.map_cons,List.map_nil,List.flatMap_cons,List.flatMap_nil,List.cons_append,List.nil_append,dot]
 rw [add8_zero,zero_add8,add8_zero]
 grind
theorem sanity_abs : Abs Tryz.prog 13 [] (ex (.bool true)):=by
 have hx:=var_pb 0
 have hy:=var_pb 1
 have h1:=one_pol
 have ha:=hx.add h1
 have hs:=hx.sub h1
 have hm:=ha.mul hs (by omega) (by omega)
 have hxx:=hx.mul hx (by omega) (by omega)
 have hd:=hxx.sub h1
 have cyy:=PMul_pb hy hy (by omega) (by omega) (by omega) (by omega) (by omega)
 rw [show pmul [⟨1,unitE 1⟩] [⟨1,unitE 1⟩] = [yyT] from pmul_yy] at cyy
 have csum:=PAdd_pb hx yy_pb (by omega) (by omega)
 rw [show mrg [⟨1,unitE 0⟩] [yyT] = [xT,yyT] from sum_xyy] at csum
 have clead := PLead_abs xT [yyT] [onesOf 255] (fun r hr => by rw [List.mem_singleton.1 hr]; exact fun i hi => ones_in i hi) ((show PIn [xT, yyT] 0 2 from fun t ht => by
  rcases List.mem_cons.1 ht with rfl | ht
  ·exact (hx.ex _ (by simp [xT])).mono (by omega) (by omega)
  ·exact yy_pb.ex t ht).mono (by omega) (by omega)) (by simp)
 rw [lead_xyy] at clead
 have csq:=RSame_sim hm.can hd.can square_sim
 have cval:=PValid_pb hm (by omega) (by omega) (by omega)
 refine Ab Tryz.func13 fun s0=>?_
 rw [Tryz.ntmps13]
 have hyy:eqB yyT.m (fun i=>([0,2]:List Int).getD i 0) = true:=by decide
 repeat (first | refine AWs.qG rfl rfl rfl rfl rfl ?_;refine ⟨_,Qs.eqMonT (a:=yyT.m) (b:=fun i=>([0,2]:List Int).getD i 0) (ao rfl) (ao rfl) hyy,?_⟩ | apply AWp.seq | apply AWp.region | (apply Ga.alloc;refine AWs.al (tab_of rfl) rfl rfl rfl rfl rfl rfl ?_) | (apply Ga.store;refine Sf ?_) | (refine AWs.q rfl rfl ?_;first | (apply Gt.move;refine ⟨_,Qs.move (ao rfl),?_⟩) | (apply Gt.assign;refine ⟨_,Qs.assign (ao rfl),?_⟩) | (apply Gt.bin;refine ⟨_,Qs.cmpF rfl (ao rfl) (ao rfl) (by first | (simp only [cmpP,List.length_cons,List.length_nil];omega) | (simp [cmpP];done) | (simp [cmpP];omega)),?_⟩) | (apply Gt.ext;refine ⟨_,Qs.ext (ao rfl) rfl,?_⟩) | (apply Gt.pick;first | refine ⟨_,Qs.pickT (ao rfl) (ao rfl),?_⟩ | refine ⟨_,Qs.pickF (ao rfl) (ao rfl),?_⟩) | (apply Gt.callv;first | refine ⟨_,Qs.call (ao rfl) (PVar_abs 0 (by omega)) (by first | ((repeat (first | exact ArgsLe.nil | refine ArgsLe.cons rfl (D.le.refl _) ?_ | refine ArgsLe.cons rfl D.le_nil ?_));done) | fail),?_⟩ | refine ⟨_,Qs.call (ao rfl) (PVar_abs 1 (by omega)) (by first | ((repeat (first | exact ArgsLe.nil | refine ArgsLe.cons rfl (D.le.refl _) ?_ | refine ArgsLe.cons rfl D.le_nil ?_));done) | fail),?_⟩ | refine ⟨_,Qs.call (ao rfl) (RWhole_abs 1 (by omega) (by omega)) (by first | ((repeat (first | exact ArgsLe.nil | refine ArgsLe.cons rfl (D.le.refl _) ?_ | refine ArgsLe.cons rfl D.le_nil ?_));done) | fail),?_⟩ | refine ⟨_,Qs.call (ao rfl) (PConst_abs (1:Int)) (by first | ((repeat (first | exact ArgsLe.nil | refine ArgsLe.cons rfl (D.le.refl _) ?_ | refine ArgsLe.cons rfl D.le_nil ?_));done) | fail),?_⟩ | refine ⟨_,Qs.call (ao rfl) (RX_abs 0 (by omega)) (by first | ((repeat (first | exact ArgsLe.nil | refine ArgsLe.cons rfl (D.le.refl _) ?_ | refine ArgsLe.cons rfl D.le_nil ?_));done) | fail),?_⟩ | refine ⟨_,Qs.call (ao rfl) (RInt_abs 1 (by omega) (by omega)) (by first | ((repeat (first | exact ArgsLe.nil | refine ArgsLe.cons rfl (D.le.refl _) ?_ | refine ArgsLe.cons rfl D.le_nil ?_));done) | fail),?_⟩ | refine ⟨_,Qs.call (ao rfl) (PAdd_pb hx h1 (by omega) (by omega)) (by first | ((repeat (first | exact ArgsLe.nil | refine ArgsLe.cons rfl (D.le.refl _) ?_ | refine ArgsLe.cons rfl D.le_nil ?_));done) | fail),?_⟩ | refine ⟨_,Qs.call (ao rfl) (PSub_pb hx h1 (by omega) (by omega)) (by first | ((repeat (first | exact ArgsLe.nil | refine ArgsLe.cons rfl (D.le.refl _) ?_ | refine ArgsLe.cons rfl D.le_nil ?_));done) | fail),?_⟩ | refine ⟨_,Qs.call (ao rfl) (PMul_pb ha hs (by omega) (by omega) (by omega) (by omega) (by omega)) (by first | ((repeat (first | exact ArgsLe.nil | refine ArgsLe.cons rfl (D.le.refl _) ?_ | refine ArgsLe.cons rfl D.le_nil ?_));done) | fail),?_⟩ | refine ⟨_,Qs.call (ao rfl) (got_abs _) (by first | ((repeat (first | exact ArgsLe.nil | refine ArgsLe.cons rfl (D.le.refl _) ?_ | refine ArgsLe.cons rfl D.le_nil ?_));done) | fail),?_⟩ | refine ⟨_,Qs.call (ao rfl) (cyy) (by first | ((repeat (first | exact ArgsLe.nil | refine ArgsLe.cons rfl (D.le.refl _) ?_ | refine ArgsLe.cons rfl D.le_nil ?_));done) | fail),?_⟩ | refine ⟨_,Qs.call (ao rfl) (csum) (by first | ((repeat (first | exact ArgsLe.nil | refine ArgsLe.cons rfl (D.le.refl _) ?_ | refine ArgsLe.cons rfl D.le_nil ?_));done) | fail),?_⟩ | refine ⟨_,Qs.call (ao rfl) (RGraded_abs) (by first | ((repeat (first | exact ArgsLe.nil | refine ArgsLe.cons rfl (D.le.refl _) ?_ | refine ArgsLe.cons rfl D.le_nil ?_));done) | fail),?_⟩ | refine ⟨_,Qs.call (ao rfl) (clead) (by first | ((repeat (first | exact ArgsLe.nil | refine ArgsLe.cons rfl (D.le.refl _) ?_ | refine ArgsLe.cons rfl D.le_nil ?_));done) | fail),?_⟩ | refine ⟨_,Qs.call (ao rfl) (RLex_abs) (by first | ((repeat (first | exact ArgsLe.nil | refine ArgsLe.cons rfl (D.le.refl _) ?_ | refine ArgsLe.cons rfl D.le_nil ?_));done) | fail),?_⟩ | refine ⟨_,Qs.call (ao rfl) (PLead0_abs []) (by first | ((repeat (first | exact ArgsLe.nil | refine ArgsLe.cons rfl (D.le.refl _) ?_ | refine ArgsLe.cons rfl D.le_nil ?_));done) | fail),?_⟩ | refine ⟨_,Qs.call (ao rfl) (RBy_pb hx hx (by omega) (by omega) (by omega) (by omega) (by omega) (by omega)) (by first | ((repeat (first | exact ArgsLe.nil | refine ArgsLe.cons rfl (D.le.refl _) ?_ | refine ArgsLe.cons rfl D.le_nil ?_));done) | fail),?_⟩ | refine ⟨_,Qs.call (ao rfl) (RSub_pb hxx h1 (by omega) (by omega) (by omega)) (by first | ((repeat (first | exact ArgsLe.nil | refine ArgsLe.cons rfl (D.le.refl _) ?_ | refine ArgsLe.cons rfl D.le_nil ?_));done) | fail),?_⟩ | refine ⟨_,Qs.call (ao rfl) (csq) (by first | ((repeat (first | exact ArgsLe.nil | refine ArgsLe.cons rfl (D.le.refl _) ?_ | refine ArgsLe.cons rfl D.le_nil ?_));done) | fail),?_⟩)) | (refine AWs.qG rfl rfl rfl rfl rfl ?_;first | (apply Gt.move;refine ⟨_,Qs.move (ao rfl),?_⟩) | (apply Gt.load;refine ⟨_,Qs.ldD (ao rfl) rfl (tab_of rfl) rfl rfl,?_⟩) | (apply Gt.fieldAddr;refine ⟨_,Qs.fldP (ao rfl) (tab_of rfl) rfl (tab_of rfl) rfl,?_⟩) | (apply Gt.bin;first | refine ⟨_,Qs.cmpF rfl (ao rfl) (ao rfl) (by first | (simp only [cmpP,List.length_cons,List.length_nil];omega) | (simp [cmpP];done) | (simp [cmpP];omega)),?_⟩ | refine ⟨_,Qs.cmp (ao rfl) (ao rfl) rfl,?_⟩) | (apply Gt.un;refine ⟨_,Qs.not (ao rfl),?_⟩) | (apply Gt.build;(refine Bq.arr (tab_of rfl) (tab_of rfl) rfl rfl ?_;(repeat ((first | refine ⟨_,PartOk.ag (ao rfl),?_⟩ | refine ⟨_,PartOk.one rfl (by first | exact One.ex_ rfl | exact One.sl | exact One.ep),?_⟩);refine ⟨_,rfl,?_⟩));refine ⟨_,rfl,?_⟩)) | (apply Gt.callv;first | refine ⟨_,Qs.call (ao rfl) (RX_abs 0 (by omega)) (by first | ((repeat (first | exact ArgsLe.nil | refine ArgsLe.cons rfl (D.le.refl _) ?_ | refine ArgsLe.cons rfl D.le_nil ?_));done) | fail),?_⟩ | refine ⟨_,Qs.call (ao rfl) (RX_abs 1 (by omega)) (by first | ((repeat (first | exact ArgsLe.nil | refine ArgsLe.cons rfl (D.le.refl _) ?_ | refine ArgsLe.cons rfl D.le_nil ?_));done) | fail),?_⟩ | refine ⟨_,Qs.call (ao rfl) (RSame_true (SameL.refl [⟨1,unitE 0⟩])) (by first | ((repeat (first | exact ArgsLe.nil | refine ArgsLe.cons rfl (D.le.refl _) ?_ | refine ArgsLe.cons rfl D.le_nil ?_));done) | fail),?_⟩ | refine ⟨_,Qs.call (ao rfl) (RSame_true (SameL.refl [⟨1,unitE 1⟩])) (by first | ((repeat (first | exact ArgsLe.nil | refine ArgsLe.cons rfl (D.le.refl _) ?_ | refine ArgsLe.cons rfl D.le_nil ?_));done) | fail),?_⟩ | refine ⟨_,Qs.call (ao rfl) (RSame_true (SameL.refl (constL (1:Int)))) (by first | ((repeat (first | exact ArgsLe.nil | refine ArgsLe.cons rfl (D.le.refl _) ?_ | refine ArgsLe.cons rfl D.le_nil ?_));done) | fail),?_⟩ | refine ⟨_,Qs.call (ao rfl) (RInt_abs 1 (by omega) (by omega)) (by first | ((repeat (first | exact ArgsLe.nil | refine ArgsLe.cons rfl (D.le.refl _) ?_ | refine ArgsLe.cons rfl D.le_nil ?_));done) | fail),?_⟩ | refine ⟨_,Qs.call (ao rfl) (cval) (by first | ((repeat (first | exact ArgsLe.nil | refine ArgsLe.cons rfl (D.le.refl _) ?_ | refine ArgsLe.cons rfl D.le_nil ?_));done) | fail),?_⟩ | refine ⟨_,Qs.call (ao rfl) (PDeg_abs [] (fun t h=>(by cases h)) (by simp)) (by first | ((repeat (first | exact ArgsLe.nil | refine ArgsLe.cons rfl (D.le.refl _) ?_ | refine ArgsLe.cons rfl D.le_nil ?_));done) | fail),?_⟩)) | apply AWl.nil | apply Yn | apply AWp.skip | apply AWp.ret | (apply Gc.cond;refine Cf ?_))
 exact Yf
def maxTo (a b:Nat→Int) (k:Nat):Nat→Int:=fun j=>if j<k then max (a j) (b j) else a j
theorem maxTo_set (a b:Nat→Int) (k:Nat):setM (maxTo a b k) k (max (a k) (b k)) = maxTo a b (k+1):=by
 funext j
 simp only [setM,maxTo]
 rcases Nat.lt_trichotomy j k with h | h | h
 ·rw [if_neg (by omega),if_pos h,if_pos (by omega)]
 ·subst h;simp
 ·rw [if_neg (by omega),if_neg (by omega),if_neg (by omega)]
theorem maxTo_at (a b:Nat→Int) (k:Nat):maxTo a b k k = a k:=if_neg (Nat.lt_irrefl k)
def max8 (a b:Nat→Int):Nat→Int:=fun j=>max (a j) (b j)
theorem mLcm_abs (a b:Nat→Int):Abs Tryz.prog 148 [agD (monC a),agD (monC b)] (agD (monC (max8 a b))):=by
 refine Ab Tryz.func148 fun s0=>?_
 rw [Tryz.ntmps148]
 apply Y1;refine AWs.bx (ao rfl) rfl rfl rfl rfl ?_;refine AWs.bx (ao rfl) rfl rfl rfl rfl ?_;refine AWs.al (tab_of rfl) rfl rfl rfl rfl rfl rfl ?_;apply Y0;apply AWp.seq;apply Y1;refine Wm ?_;apply Y0;apply AWp.block
 refine AWp.loop (fun mz σ=>∃ k,k≤8∧mz = 8 - k∧σ = ⟨[(2,.ptr 0 0),(3,.ptr 1 0),(4,.ptr 2 0),(6,.d (ex (.int .i64 (k:Nat))))],[.var 31 ((monC (maxTo a b k)).map .d),.var 31 ((monC b).map .d),.var 31 ((monC fun _=>0).map .d)]⟩) ?le ⟨0,by omega,rfl,rfl⟩ ?round
 case le=>exact AS.le_of (by refine Yp ?_;refine Yp ?_;refine Yp ?_;refine Yd ?_;exact FrLe.nil) (by apply Yv;apply Yv;apply Yv;exact HpLe.nil)
 case round =>
  rintro mz _ ⟨k,hk,rfl,rfl⟩
  by_cases hlt:k<8
  ·have h1:=maxTo_at a b k
   apply Y1;refine Wq Qz.cmpT ?_;apply Y0;apply AWp.seq;refine Ct ?_;apply Ys;apply AWp.seq;apply AWp.block;apply Y1;refine Wm ?_;refine Wa ?_;apply Y0
   refine AWp.dr' (DrawOk.self (by kernel_rfl)) [[],[],[(10,1)],[(11,2)],[],[(13,4)],[(14,5)],[(12,3),(15,6)],[(9,0)]] [[],[],[1],[1,2],[],[4],[4,5],[1,2,3,4,5,6],[0,1,2,3,4,5,6,7]] rfl (by kernel_rfl) (by kernel_rfl) (by kernel_rfl) ?_
   refine Xq Qz.move ?_;refine Xq Qz.move ?_;refine Xq Qz.ixP ?_;refine Xq Qz.ldX1 ?_;refine Xq Qz.move ?_;refine Xq Qz.ixP ?_;refine Xq Qz.ldX1 ?_;refine Xq Qz.max ?_;refine Xq Qz.ixP ?_;refine ⟨_,rfl,?_⟩
   (refine AWs.stX1 (ao rfl) (ao rfl) rfl (tab_of rfl) (by first | exact One.ex_ rfl | exact One.sl | exact One.ep) (SetAt.mon (by first | omega | (simp;omega))) rfl ?_);apply AWl.nil;apply ABlock.normal;apply Yn;apply AWp.region;refine Wq Qz.succ ?_;refine Wm ?_;apply AWl.nil
   refine ALoop.next (8 - (k+1)) (by omega) ⟨k+1,by omega,rfl,rfl⟩ ?_
   exact AS.le_of (by refine Yp ?_;refine Yp ?_;refine Yp ?_;refine Yd ?_;exact FrLe.nil) (by refine HpLe.cons (OwLe.varD (by rw [h1,maxTo_set])) ?_;apply Yv;apply Yv;exact HpLe.nil)
  ·obtain rfl : k = 8 := by omega
   apply Y1;refine Wq Qz.cmpF ?_;apply Y0;apply AWp.seq;refine Cf ?_;apply AWp.exit;apply AThen.exit;apply ALoop.exit;apply ABlock.hit;apply Yn;apply Y1;refine Wq Qz.ldD ?_;refine Sf ?_;apply Y0;apply AWp.ret
   exact Fin.ret (Rets.of1 (ResV.cell rfl rfl (tab_of rfl) rfl rfl rfl) (D.le.refl _))
def degV (P : List Tm):Nat→Int:=P.foldl (fun d t=>max8 d t.m) fun _=>0
theorem degV_take {P : List Tm} {k:Nat} (h:k<P.length):degV (P.take (k+1)) = max8 (degV (P.take k)) (tAt P k).m:=foldl_tAt (fun d t=>max8 d t.m) (fun _=>0) h
theorem degV_in {P : List Tm} {d:Int} (h:PIn P 0 d) (h0:0≤d):In8 (degV P) 0 d:=by
 have key:∀ (P:List Tm) (a:Nat→Int),PIn P 0 d→In8 a 0 d→In8 (P.foldl (fun d t=>max8 d t.m) a) 0 d:=by
  intro P
  induction P with
  | nil=>intro a _ h;exact h
  | cons t P ih =>
   intro a h1 h2
   refine ih _ (fun u hu=>h1 u (by simp [hu])) fun i hi=>?_
   have:=h1 t (by simp) i hi
   have:=h2 i hi
   simp only [max8];omega
 exact key P _ h fun i _=>⟨Int.le_refl _,h0⟩
theorem degs_abs (P : List Tm) (hn:P.length≤1000000):Abs Tryz.prog 110 [polD P] (agD (monC (degV P))):=by
 refine Ab Tryz.func110 fun s0=>?_
 rw [Tryz.ntmps110]
 apply Y1;refine AWs.al (tab_of rfl) rfl rfl rfl rfl rfl rfl ?_;apply Y0;apply Y1;refine AWs.al (tab_of rfl) rfl rfl rfl rfl rfl rfl ?_;apply Y0;apply AWp.seq;apply Y1;refine Wm ?_;refine Wq Qz.lenN ?_;refine Wm ?_;apply Y0;apply AWp.block
 refine AWp.loop (fun mz σ=>∃ k,k≤P.length∧mz = P.length - k∧σ = ⟨[(2,.ptr 0 0),(3,.ptr 1 0),(6,.d (polD P)),(7,.d (ex (.int .i64 (P.length:Nat)))),(8,.d (ex (.int .i64 (k:Nat))))],[.var 30 ((monC fun _=>0).map .d),.var 31 ((monC (degV (P.take k))).map .d)]⟩) ?le ⟨0,by omega,rfl,rfl⟩ ?round
 case le=>exact AS.le_of (by refine Yp ?_;refine Yp ?_;refine Yd ?_;refine Yd ?_;refine Yd ?_;exact FrLe.nil) (by apply Yv;apply Yv;exact HpLe.nil)
 case round =>
  rintro mz _ ⟨k,hk,rfl,rfl⟩
  by_cases hlt:k<P.length
  ·have hst:=degV_take hlt
   apply Y1;refine Wq Qz.cmpT ?_;apply Y0;apply AWp.seq;refine Ct ?_;apply Ys;apply AWp.seq;apply AWp.block;apply Y1;refine Wq Qz.indexN ?_;refine Wq Qz.loadEf ?_;refine AWs.al (tab_of rfl) rfl rfl rfl rfl rfl rfl ?_;refine Sf ?_;apply Y0;apply AWp.region;refine Wq Qz.ldD ?_;refine Wq Qz.fldP ?_;refine Wq Qz.ldD ?_;refine Wq (Qz.call (mLcm_abs (degV (P.take k)) (tAt P k).m)) ?_;refine Sf ?_;apply AWl.nil;apply ABlock.normal;apply Yn;apply AWp.region;refine Wq Qz.succ ?_;refine Wm ?_;apply AWl.nil
   refine ALoop.next (P.length - (k+1)) (by omega) ⟨k+1,by omega,rfl,rfl⟩ ?_
   exact AS.le_of (by refine Yp ?_;refine Yp ?_;refine Yd ?_;refine Yd ?_;refine Yd ?_;exact FrLe.nil) (by apply Yv;refine HpLe.cons (OwLe.varD (by rw [hst])) ?_;exact HpLe.nil)
  ·obtain rfl : k = P.length := by omega
   apply Y1;refine Wq Qz.cmpF ?_;apply Y0;apply AWp.seq;refine Cf ?_;apply AWp.exit;apply AThen.exit;apply ALoop.exit;apply ABlock.hit;apply Yn;apply Y1;refine Wq Qz.ldD ?_;refine Sf ?_;apply Y0;apply AWp.ret
   exact Fin.ret (Rets.of1 (ResV.cell rfl rfl (tab_of rfl) rfl rfl rfl) (D.le.of_eq (by rw [List.take_length];rfl)))
def powF (P : List Tm):Nat→List Tm
 | 0=>constL (1:Int)
 | k+1=>pmul (powF P k) P
theorem RPow_abs {P : List Tm} {n N L M:Nat} {d E:Int} (z:Nat) (hP:PB P n N d) (hb:∀ k,k≤z→PB (powF P k) L M E) (hz:z≤64) (h0:0≤d) (h0':0≤E) (hd:E+d≤65535) (hn0:L≤100000) (hn:L*n+n≤100000) (hN:L*(M+N+1)+M+N+1≤4398046511102):Abs Tryz.prog 54 [polD P,ex (.int .i64 (z:Nat))] (tupD [polD (powF P z),ex (.int .i64 0)]):=by
 refine Ab Tryz.func54 fun s0=>?_
 rw [Tryz.ntmps54]
 apply Y1;refine Wa ?_;refine Wa ?_;apply Y0;apply AWp.seq;apply Y1;refine Wm ?_;refine Wq Qz.cmpF ?_;refine Wm ?_;refine Wg Qz.move ?_;refine Wg Qz.cmpF ?_;refine Wq Qz.pickF ?_;apply Y0;refine Cf ?_;apply Ys;apply Y1;refine Wq (Qz.call (RInt_abs 1 (by omega) (by omega))) ?_;refine Wa ?_;apply Y0;apply AWp.seq;apply Y1;refine Wa ?_;apply Y0;apply AWp.block
 refine AWp.loop (fun mz σ=>∃ k,k≤z∧mz = z - k∧σ = ⟨[(0,.d (polD P)),(1,.d (ex (.int .i64 (z:Nat)))),(6,.d (polD (powF P k))),(7,.d (ex (.int .i64 (k:Nat))))],[]⟩) ?le ⟨0,by omega,rfl,rfl⟩ ?round
 case le=>exact AS.le_of (by refine Yd ?_;refine Yd ?_;refine Yd ?_;refine Yd ?_;exact FrLe.nil) (by exact HpLe.nil)
 case round =>
  rintro mz _ ⟨k,hk,rfl,rfl⟩
  by_cases hlt:k<z
  ·have h1 := hb k (by omega)
   apply AWp.seq;apply Y1;refine Wm ?_;refine Wm ?_;refine Wq Qz.cmpT ?_;apply Y0;refine Ct ?_;apply Ys;apply AWp.seq;apply AWp.block;apply Y1;refine Wm ?_;refine Wm ?_;refine Wq (Qz.call (RPMul_pb h1 hP h0' h0 hd hn0 hn hN)) ?_;refine Wm ?_;refine Wq Qz.ext ?_;refine Wq Qz.ext ?_;refine Wa ?_;refine Wa ?_;apply Y0;apply AWp.seq;apply Y1;refine Wm ?_;refine Wq Qz.cmpF ?_;apply Y0;refine Cf ?_;apply Ys;apply AWp.region;refine Wm ?_;refine Wa ?_;apply AWl.nil;apply ABlock.normal;apply Yn;apply AWp.region;refine Wm ?_;refine Wq Qz.succ ?_;refine Wa ?_;apply AWl.nil
   refine ALoop.next (z - (k+1)) (by omega) ⟨k+1,by omega,rfl,rfl⟩ ?_
   exact AS.le_of (by refine Yd ?_;refine Yd ?_;refine Yd ?_;refine Yd ?_;exact FrLe.nil) (by exact HpLe.nil)
  ·obtain rfl : k = z := by omega
   apply AWp.seq;apply Y1;refine Wm ?_;refine Wm ?_;refine Wq Qz.cmpF ?_;apply Y0;refine Cf ?_;apply AWp.exit;apply AThen.exit;apply ALoop.exit;apply ABlock.hit;apply Yn;apply Y1;refine Wm ?_;refine Wa ?_;refine Wa ?_;apply Y0;apply AWp.ret
   exact Fin.ret (Rets.of2 (ResV.tmp rfl rfl) (ResV.tmp rfl rfl) (D.le.tup2 (D.le.refl _) (D.le.refl _)))
theorem RPowF_abs (P : List Tm) (z:Int) (hz:z<0∨64<z):Abs Tryz.prog 54 [polD P,ex (.int .i64 z)] (tupD [polD [],ex (.int .i64 1)]):=by
 rcases (show z<0∨(0≤z∧64<z) by omega) with h | ⟨h0,h⟩
 ·refine Ab Tryz.func54 fun s0 => ?_
  rw [Tryz.ntmps54]
  apply Y1;refine Wa ?_;refine Wa ?_;apply Y0;apply AWp.seq;apply Y1;refine Wm ?_;refine Wq Qz.cmpT ?_;refine Wm ?_;refine Ws ?_;refine Ws ?_;refine Wq Qz.pickT ?_;apply Y0;refine Ct ?_;apply Y1;refine Wa ?_;refine Wa ?_;apply Y0;apply AWp.ret;apply AThen.ret
  exact Fin.ret (Rets.of2 (ResV.tmp rfl rfl) (ResV.tmp rfl rfl) (D.le.tup2 (D.le_nilP) (D.le.refl _)))
 ·refine Ab Tryz.func54 fun s0 => ?_
  rw [Tryz.ntmps54]
  apply Y1;refine Wa ?_;refine Wa ?_;apply Y0;apply AWp.seq;apply Y1;refine Wm ?_;refine Wq Qz.cmpF ?_;refine Wm ?_;refine Wg Qz.move ?_;refine Wg Qz.cmpT ?_;refine Wq Qz.pickF ?_;apply Y0;refine Ct ?_;apply Y1;refine Wa ?_;refine Wa ?_;apply Y0;apply AWp.ret;apply AThen.ret
  exact Fin.ret (Rets.of2 (ResV.tmp rfl rfl) (ResV.tmp rfl rfl) (D.le.tup2 (D.le_nilP) (D.le.refl _)))
theorem PPowF_abs (P : List Tm) (z:Int) (hz:z<0∨64<z):Abs Tryz.prog 53 [polD P,ex (.int .i64 z)] (tupD [polD [],ex (.int .i64 1)]):=by
 rcases (show z<0∨(0≤z∧64<z) by omega) with h | ⟨h0,h⟩
 ·refine Ab Tryz.func53 fun s0 => ?_
  rw [Tryz.ntmps53]
  apply Y1;refine Wa ?_;refine Wa ?_;apply Y0;apply AWp.seq;apply Y1;refine Wm ?_;refine Wq Qz.cmpT ?_;refine Wm ?_;refine Ws ?_;refine Ws ?_;refine Wq Qz.pickT ?_;apply Y0;refine Ct ?_;apply Y1;refine Wa ?_;refine Wa ?_;apply Y0;apply AWp.ret;apply AThen.ret
  exact Fin.ret (Rets.of2 (ResV.tmp rfl rfl) (ResV.tmp rfl rfl) (D.le.tup2 (D.le_nilP) (D.le.refl _)))
 ·refine Ab Tryz.func53 fun s0 => ?_
  rw [Tryz.ntmps53]
  apply Y1;refine Wa ?_;refine Wa ?_;apply Y0;apply AWp.seq;apply Y1;refine Wm ?_;refine Wq Qz.cmpF ?_;refine Wm ?_;refine Wg Qz.move ?_;refine Wg Qz.cmpT ?_;refine Wq Qz.pickF ?_;apply Y0;refine Ct ?_;apply Y1;refine Wa ?_;refine Wa ?_;apply Y0;apply AWp.ret;apply AThen.ret
  exact Fin.ret (Rets.of2 (ResV.tmp rfl rfl) (ResV.tmp rfl rfl) (D.le.tup2 (D.le_nilP) (D.le.refl _)))
theorem PPow_abs {P : List Tm} {n N L M:Nat} {d E:Int} (z:Nat) (hP:PB P n N d) (hb:∀ k,k≤z→PB (powF P k) L M E) (hz:z≤64) (h0:0≤d) (h0':0≤E) (hd:E+d≤65535) (hdz:d*(z:Int)≤65535) (hn0:n≤100000) (hn:L*n≤100000) (hN:M+N+1≤10000000):Abs Tryz.prog 53 [polD P,ex (.int .i64 (z:Nat))] (tupD [polD (powF P z),ex (.int .i64 0)]):=by
 have hPl:=hP.len
 have hv:=degV_in hP.ex h0
 refine Ab Tryz.func53 fun s0=>?_
 rw [Tryz.ntmps53]
 apply Y1;refine Wa ?_;refine Wa ?_;apply Y0;apply AWp.seq;apply Y1;refine Wm ?_;refine Wq Qz.cmpF ?_;refine Wm ?_;refine Wg Qz.move ?_;refine Wg Qz.cmpF ?_;refine Wq Qz.pickF ?_;apply Y0;refine Cf ?_;apply Ys;apply AWp.seq;apply Y1;refine Wm ?_;refine Wq (Qz.call (degs_abs P (by omega))) ?_;refine Wm ?_;apply Y0;apply AWp.block
 refine AWp.loop (fun mz σ=>∃ k,k≤8∧mz = 8 - k∧σ = ⟨[(0,.d (polD P)),(1,.d (ex (.int .i64 (z:Nat)))),(16,.d (agD (monC (degV P)))),(17,.d (ex (.int .i64 (k:Nat))))],[]⟩) ?le ⟨0,by omega,rfl,rfl⟩ ?round
 case le=>exact AS.le_of (by refine Yd ?_;refine Yd ?_;refine Yd ?_;refine Yd ?_;exact FrLe.nil) (by exact HpLe.nil)
 case round =>
  rintro mz _ ⟨k,hk,rfl,rfl⟩
  by_cases hlt:k<8
  ·have hk2:=hv k hlt
   have hm:degV P k*(z:Int)≤d*(z:Int):=Int.mul_le_mul_of_nonneg_right hk2.2 (by omega)
   have hm0:0≤degV P k*(z:Int):=Int.mul_nonneg hk2.1 (by omega)
   apply Y1;refine Wq Qz.cmpT ?_;apply Y0;apply AWp.seq;refine Ct ?_;apply Ys;apply AWp.seq;apply AWp.block;apply Y1;refine Wq Qz.atX1 ?_;refine Wa ?_;apply Y0;apply Y1;refine Wm ?_;refine Wm ?_;refine Wq Qz.mul ?_;refine Wq Qz.cmpF ?_;apply Y0;refine Cf ?_;apply AWp.skip;apply ABlock.normal;apply Yn;apply AWp.region;refine Wq Qz.succ ?_;refine Wm ?_;apply AWl.nil
   refine ALoop.next (8 - (k+1)) (by omega) ⟨k+1,by omega,rfl,rfl⟩ ?_
   exact AS.le_of (by refine Yd ?_;refine Yd ?_;refine Yd ?_;refine Yd ?_;exact FrLe.nil) (by exact HpLe.nil)
  ·obtain rfl : k = 8 := by omega
   apply Y1;refine Wq Qz.cmpF ?_;apply Y0;apply AWp.seq;refine Cf ?_;apply AWp.exit;apply AThen.exit;apply ALoop.exit;apply ABlock.hit;apply Yn;apply Y1;refine Wq (Qz.call (Whole_abs 1 (by omega) (by omega))) ?_;refine Wq (Qz.call (PConst_abs (1:Int))) ?_;refine Wa ?_;apply Y0;apply AWp.seq;apply Y1;refine Wm ?_;refine Wm ?_;apply Y0;apply AWp.block
   refine AWp.loop (fun mz σ=>∃ i,i≤z∧mz = z - i∧σ = ⟨[(0,.d (polD P)),(8,.d (polD (powF P i))),(27,.d (ex (.int .i64 (z:Nat)))),(28,.d (ex (.int .i64 (i:Nat))))],[]⟩) ?lei ⟨0,by omega,rfl,rfl⟩ ?roundi
   case lei=>exact AS.le_of (by refine Yd ?_;refine Yd ?_;refine Yd ?_;refine Yd ?_;exact FrLe.nil) (by exact HpLe.nil)
   case roundi =>
    rintro mz _ ⟨i,hi,rfl,rfl⟩
    by_cases hlti:i<z
    ·have h1 := hb i (by omega)
     apply Y1;refine Wq Qz.cmpT ?_;apply Y0;apply AWp.seq;refine Ct ?_;apply Ys;apply AWp.seq;apply AWp.block;apply AWp.region;refine Wm ?_;refine Wm ?_;refine Wq (Qz.call (PMul_pb h1 hP h0' h0 hd hn hN)) ?_;refine Wm ?_;refine Wq Qz.ext ?_;refine Wq Qz.ext ?_;refine Wa ?_;apply AWl.nil;apply ABlock.normal;apply Yn;apply AWp.region;refine Wq Qz.succ ?_;refine Wm ?_;apply AWl.nil
     refine ALoop.next (z - (i+1)) (by omega) ⟨i+1,by omega,rfl,rfl⟩ ?_
     exact AS.le_of (by refine Yd ?_;refine Yd ?_;refine Yd ?_;refine Yd ?_;exact FrLe.nil) (by exact HpLe.nil)
    ·obtain rfl : i = z := by omega
     apply Y1;refine Wq Qz.cmpF ?_;apply Y0;apply AWp.seq;refine Cf ?_;apply AWp.exit;apply AThen.exit;apply ALoop.exit;apply ABlock.hit;apply Yn;apply Y1;refine Wm ?_;refine Wa ?_;refine Wa ?_;apply Y0;apply AWp.ret
     exact Fin.ret (Rets.of2 (ResV.tmp rfl rfl) (ResV.tmp rfl rfl) (D.le.tup2 (D.le.refl _) (D.le.refl _)))
theorem vanF_abs (m : Nat→Int) (B:Nat→List Tm) (hB:∀ i,i<8→(B i).length≤100000) (h:∀ i,i<8→0<m i→0<(B i).length):Abs Tryz.prog 111 [agD (monC m),agD (pol8 B)] (ex (.bool false)):=by
 refine Ab Tryz.func111 fun s0=>?_
 rw [Tryz.ntmps111]
 apply Y1;refine AWs.bx (ao rfl) rfl rfl rfl rfl ?_;refine AWs.bx (ao rfl) rfl rfl rfl rfl ?_;refine Wa ?_;apply Y0;apply AWp.seq;apply Y1;refine Wq Qz.ldD ?_;refine Wm ?_;apply Y0;apply AWp.block
 refine AWp.loop (fun mz σ=>∃ k,k≤8∧mz = 8 - k∧σ = ⟨[(2,.ptr 0 0),(3,.ptr 1 0),(7,.d (agD (monC m))),(8,.d (ex (.int .i64 (k:Nat))))],[.var 31 ((monC m).map .d),.var 77 ((pol8 B).map .d)]⟩) ?le ⟨0,by omega,rfl,rfl⟩ ?round
 case le=>exact AS.le_of (by refine Yp ?_;refine Yp ?_;refine Yd ?_;refine Yd ?_;exact FrLe.nil) (by apply Yv;apply Yv;exact HpLe.nil)
 case round =>
  rintro mz _ ⟨k,hk,rfl,rfl⟩
  by_cases hlt:k<8
  ·have h1:=h k hlt
   have h2:=hB k hlt
   by_cases h0:0<m k
   ·have h3:=h1 h0
    apply Y1;refine Wq Qz.cmpT ?_;apply Y0;apply AWp.seq;refine Ct ?_;apply Ys;apply AWp.seq;apply AWp.block;apply Y1;refine Wm ?_;refine Wq Qz.atX1 ?_;refine Wa ?_;refine Wa ?_;apply Y0;apply Y1;refine Wm ?_;refine Wq Qz.cmpT ?_;refine Wm ?_;refine Wg Qz.move ?_;refine Wg Qz.ixP ?_;(refine AWs.qG rfl rfl rfl rfl rfl ?_;refine ⟨_,Qs.ldX1 (ao rfl) rfl (tab_of rfl) rfl (CellAt.p8 (by omega)),?_⟩);refine Wg Qz.lenN ?_;refine Wg Qz.cmpF ?_;refine Wq Qz.pickT ?_;apply Y0;refine Cf ?_;apply AWp.skip;apply ABlock.normal;apply Yn;apply AWp.region;refine Wq Qz.succ ?_;refine Wm ?_;apply AWl.nil
    refine ALoop.next (8 - (k+1)) (by omega) ⟨k+1,by omega,rfl,rfl⟩ ?_
    exact AS.le_of (by refine Yp ?_;refine Yp ?_;refine Yd ?_;refine Yd ?_;exact FrLe.nil) (by apply Yv;apply Yv;exact HpLe.nil)
   ·apply Y1;refine Wq Qz.cmpT ?_;apply Y0;apply AWp.seq;refine Ct ?_;apply Ys;apply AWp.seq;apply AWp.block;apply Y1;refine Wm ?_;refine Wq Qz.atX1 ?_;refine Wa ?_;refine Wa ?_;apply Y0;apply Y1;refine Wm ?_;refine Wq Qz.cmpF ?_;refine Wm ?_;refine Ws ?_;refine Ws ?_;refine Ws ?_;refine Ws ?_;refine Ws ?_;refine Wq Qz.pickF ?_;apply Y0;refine Cf ?_;apply AWp.skip;apply ABlock.normal;apply Yn;apply AWp.region;refine Wq Qz.succ ?_;refine Wm ?_;apply AWl.nil
    refine ALoop.next (8 - (k+1)) (by omega) ⟨k+1,by omega,rfl,rfl⟩ ?_
    exact AS.le_of (by refine Yp ?_;refine Yp ?_;refine Yd ?_;refine Yd ?_;exact FrLe.nil) (by apply Yv;apply Yv;exact HpLe.nil)
  ·obtain rfl : k = 8 := by omega
   apply Y1;refine Wq Qz.cmpF ?_;apply Y0;apply AWp.seq;refine Cf ?_;apply AWp.exit;apply AThen.exit;apply ALoop.exit;apply ABlock.hit;apply Yn;apply Y1;refine Wa ?_;apply Y0;apply AWp.ret
   exact Yf
theorem vanT_abs (m : Nat→Int) (B:Nat→List Tm) (z:Nat) (hz:z<8) (hB:∀ i,i<8→(B i).length≤100000) (h:∀ i,i<z→0<m i→0<(B i).length) (hm:0<m z) (hn:B z = []):Abs Tryz.prog 111 [agD (monC m),agD (pol8 B)] (ex (.bool true)):=by
 have hl:(B z).length = 0:=by rw [hn];rfl
 refine Ab Tryz.func111 fun s0=>?_
 rw [Tryz.ntmps111]
 apply Y1;refine AWs.bx (ao rfl) rfl rfl rfl rfl ?_;refine AWs.bx (ao rfl) rfl rfl rfl rfl ?_;refine Wa ?_;apply Y0;apply AWp.seq;apply Y1;refine Wq Qz.ldD ?_;refine Wm ?_;apply Y0;apply AWp.block
 refine AWp.loop (fun mz σ=>∃ k,k≤z∧mz = z - k∧σ = ⟨[(2,.ptr 0 0),(3,.ptr 1 0),(7,.d (agD (monC m))),(8,.d (ex (.int .i64 (k:Nat))))],[.var 31 ((monC m).map .d),.var 77 ((pol8 B).map .d)]⟩) ?le ⟨0,by omega,rfl,rfl⟩ ?round
 case le=>exact AS.le_of (by refine Yp ?_;refine Yp ?_;refine Yd ?_;refine Yd ?_;exact FrLe.nil) (by apply Yv;apply Yv;exact HpLe.nil)
 case round =>
  rintro mz _ ⟨k,hk,rfl,rfl⟩
  by_cases hlt:k<z
  ·have h1:=h k hlt
   have h2:=hB k (by omega)
   by_cases h0:0<m k
   ·have h3:=h1 h0
    apply Y1;refine Wq Qz.cmpT ?_;apply Y0;apply AWp.seq;refine Ct ?_;apply Ys;apply AWp.seq;apply AWp.block;apply Y1;refine Wm ?_;refine Wq Qz.atX1 ?_;refine Wa ?_;refine Wa ?_;apply Y0;apply Y1;refine Wm ?_;refine Wq Qz.cmpT ?_;refine Wm ?_;refine Wg Qz.move ?_;refine Wg Qz.ixP ?_;(refine AWs.qG rfl rfl rfl rfl rfl ?_;refine ⟨_,Qs.ldX1 (ao rfl) rfl (tab_of rfl) rfl (CellAt.p8 (by omega)),?_⟩);refine Wg Qz.lenN ?_;refine Wg Qz.cmpF ?_;refine Wq Qz.pickT ?_;apply Y0;refine Cf ?_;apply AWp.skip;apply ABlock.normal;apply Yn;apply AWp.region;refine Wq Qz.succ ?_;refine Wm ?_;apply AWl.nil
    refine ALoop.next (z - (k+1)) (by omega) ⟨k+1,by omega,rfl,rfl⟩ ?_
    exact AS.le_of (by refine Yp ?_;refine Yp ?_;refine Yd ?_;refine Yd ?_;exact FrLe.nil) (by apply Yv;apply Yv;exact HpLe.nil)
   ·apply Y1;refine Wq Qz.cmpT ?_;apply Y0;apply AWp.seq;refine Ct ?_;apply Ys;apply AWp.seq;apply AWp.block;apply Y1;refine Wm ?_;refine Wq Qz.atX1 ?_;refine Wa ?_;refine Wa ?_;apply Y0;apply Y1;refine Wm ?_;refine Wq Qz.cmpF ?_;refine Wm ?_;refine Ws ?_;refine Ws ?_;refine Ws ?_;refine Ws ?_;refine Ws ?_;refine Wq Qz.pickF ?_;apply Y0;refine Cf ?_;apply AWp.skip;apply ABlock.normal;apply Yn;apply AWp.region;refine Wq Qz.succ ?_;refine Wm ?_;apply AWl.nil
    refine ALoop.next (z - (k+1)) (by omega) ⟨k+1,by omega,rfl,rfl⟩ ?_
    exact AS.le_of (by refine Yp ?_;refine Yp ?_;refine Yd ?_;refine Yd ?_;exact FrLe.nil) (by apply Yv;apply Yv;exact HpLe.nil)
  ·obtain rfl : k = z := by omega
   apply Y1;refine Wq Qz.cmpT ?_;apply Y0;apply AWp.seq;refine Ct ?_;apply Ys;apply AWp.seq;apply AWp.block;apply Y1;refine Wm ?_;refine Wq Qz.atX1 ?_;refine Wa ?_;refine Wa ?_;apply Y0;apply Y1;refine Wm ?_;refine Wq Qz.cmpT ?_;refine Wm ?_;refine Wg Qz.move ?_;refine Wg Qz.ixP ?_;(refine AWs.qG rfl rfl rfl rfl rfl ?_;refine ⟨_,Qs.ldX1 (ao rfl) rfl (tab_of rfl) rfl (CellAt.p8 (by omega)),?_⟩);refine Wg Qz.lenN ?_;refine Wg Qz.cmpT ?_;refine Wq Qz.pickT ?_;apply Y0;refine Ct ?_;apply Y1;refine Wa ?_;apply Y0;apply AWp.ret;apply ABlock.ret;apply AThen.ret;apply ALoop.ret;apply ABlock.ret;apply AThen.ret
   exact Yf
theorem RvanF_abs (m : Nat→Int) (B:Nat→List Tm) (hB:∀ i,i<8→(B i).length≤100000) (h:∀ i,i<8→0<m i→0<(B i).length):Abs Tryz.prog 114 [agD (monC m),agD (pol8 B)] (ex (.bool false)):=by
 refine Ab Tryz.func114 fun s0=>?_
 rw [Tryz.ntmps114]
 apply Y1;refine AWs.bx (ao rfl) rfl rfl rfl rfl ?_;refine AWs.bx (ao rfl) rfl rfl rfl rfl ?_;refine Wa ?_;apply Y0;apply AWp.seq;apply Y1;refine Wa ?_;apply Y0;apply AWp.block
 refine AWp.loop (fun mz σ=>∃ k,k≤8∧mz = 8 - k∧σ = ⟨[(2,.ptr 0 0),(3,.ptr 1 0),(5,.d (ex (.int .i64 (k:Nat))))],[.var 31 ((monC m).map .d),.var 77 ((pol8 B).map .d)]⟩) ?le ⟨0,by omega,rfl,rfl⟩ ?round
 case le=>exact AS.le_of (by refine Yp ?_;refine Yp ?_;refine Yd ?_;exact FrLe.nil) (by apply Yv;apply Yv;exact HpLe.nil)
 case round =>
  rintro mz _ ⟨k,hk,rfl,rfl⟩
  by_cases hlt:k<8
  ·have h1:=h k hlt
   have h2:=hB k hlt
   by_cases h0:0<m k
   ·have h3:=h1 h0
    apply AWp.seq;apply Y1;refine Wm ?_;refine Wq Qz.cmpT ?_;apply Y0;refine Ct ?_;apply Ys;apply AWp.seq;apply AWp.block;apply Y1;refine Wm ?_;refine Wq Qz.ixP ?_;refine Wq Qz.ldX1 ?_;refine Wq Qz.cmpT ?_;refine Wm ?_;refine Wg Qz.move ?_;refine Wg Qz.ixP ?_;(refine AWs.qG rfl rfl rfl rfl rfl ?_;refine ⟨_,Qs.ldX1 (ao rfl) rfl (tab_of rfl) rfl (CellAt.p8 (by omega)),?_⟩);refine Wg Qz.lenN ?_;refine Wg Qz.cmpF ?_;refine Wq Qz.pickT ?_;apply Y0;refine Cf ?_;apply AWp.skip;apply ABlock.normal;apply Yn;apply AWp.region;refine Wm ?_;refine Wq Qz.succ ?_;refine Wa ?_;apply AWl.nil
    refine ALoop.next (8 - (k+1)) (by omega) ⟨k+1,by omega,rfl,rfl⟩ ?_
    exact AS.le_of (by refine Yp ?_;refine Yp ?_;refine Yd ?_;exact FrLe.nil) (by apply Yv;apply Yv;exact HpLe.nil)
   ·apply AWp.seq;apply Y1;refine Wm ?_;refine Wq Qz.cmpT ?_;apply Y0;refine Ct ?_;apply Ys;apply AWp.seq;apply AWp.block;apply Y1;refine Wm ?_;refine Wq Qz.ixP ?_;refine Wq Qz.ldX1 ?_;refine Wq Qz.cmpF ?_;refine Wm ?_;refine Ws ?_;refine Ws ?_;refine Ws ?_;refine Ws ?_;refine Ws ?_;refine Wq Qz.pickF ?_;apply Y0;refine Cf ?_;apply AWp.skip;apply ABlock.normal;apply Yn;apply AWp.region;refine Wm ?_;refine Wq Qz.succ ?_;refine Wa ?_;apply AWl.nil
    refine ALoop.next (8 - (k+1)) (by omega) ⟨k+1,by omega,rfl,rfl⟩ ?_
    exact AS.le_of (by refine Yp ?_;refine Yp ?_;refine Yd ?_;exact FrLe.nil) (by apply Yv;apply Yv;exact HpLe.nil)
  ·obtain rfl : k = 8 := by omega
   apply AWp.seq;apply Y1;refine Wm ?_;refine Wq Qz.cmpF ?_;apply Y0;refine Cf ?_;apply AWp.exit;apply AThen.exit;apply ALoop.exit;apply ABlock.hit;apply Yn;apply Y1;refine Wa ?_;apply Y0;apply AWp.ret
   exact Yf
theorem RvanT_abs (m : Nat→Int) (B:Nat→List Tm) (z:Nat) (hz:z<8) (hB:∀ i,i<8→(B i).length≤100000) (h:∀ i,i<z→0<m i→0<(B i).length) (hm:0<m z) (hn:B z = []):Abs Tryz.prog 114 [agD (monC m),agD (pol8 B)] (ex (.bool true)):=by
 have hl:(B z).length = 0:=by rw [hn];rfl
 refine Ab Tryz.func114 fun s0=>?_
 rw [Tryz.ntmps114]
 apply Y1;refine AWs.bx (ao rfl) rfl rfl rfl rfl ?_;refine AWs.bx (ao rfl) rfl rfl rfl rfl ?_;refine Wa ?_;apply Y0;apply AWp.seq;apply Y1;refine Wa ?_;apply Y0;apply AWp.block
 refine AWp.loop (fun mz σ=>∃ k,k≤z∧mz = z - k∧σ = ⟨[(2,.ptr 0 0),(3,.ptr 1 0),(5,.d (ex (.int .i64 (k:Nat))))],[.var 31 ((monC m).map .d),.var 77 ((pol8 B).map .d)]⟩) ?le ⟨0,by omega,rfl,rfl⟩ ?round
 case le=>exact AS.le_of (by refine Yp ?_;refine Yp ?_;refine Yd ?_;exact FrLe.nil) (by apply Yv;apply Yv;exact HpLe.nil)
 case round =>
  rintro mz _ ⟨k,hk,rfl,rfl⟩
  by_cases hlt:k<z
  ·have h1:=h k hlt
   have h2:=hB k (by omega)
   by_cases h0:0<m k
   ·have h3:=h1 h0
    apply AWp.seq;apply Y1;refine Wm ?_;refine Wq Qz.cmpT ?_;apply Y0;refine Ct ?_;apply Ys;apply AWp.seq;apply AWp.block;apply Y1;refine Wm ?_;refine Wq Qz.ixP ?_;refine Wq Qz.ldX1 ?_;refine Wq Qz.cmpT ?_;refine Wm ?_;refine Wg Qz.move ?_;refine Wg Qz.ixP ?_;(refine AWs.qG rfl rfl rfl rfl rfl ?_;refine ⟨_,Qs.ldX1 (ao rfl) rfl (tab_of rfl) rfl (CellAt.p8 (by omega)),?_⟩);refine Wg Qz.lenN ?_;refine Wg Qz.cmpF ?_;refine Wq Qz.pickT ?_;apply Y0;refine Cf ?_;apply AWp.skip;apply ABlock.normal;apply Yn;apply AWp.region;refine Wm ?_;refine Wq Qz.succ ?_;refine Wa ?_;apply AWl.nil
    refine ALoop.next (z - (k+1)) (by omega) ⟨k+1,by omega,rfl,rfl⟩ ?_
    exact AS.le_of (by refine Yp ?_;refine Yp ?_;refine Yd ?_;exact FrLe.nil) (by apply Yv;apply Yv;exact HpLe.nil)
   ·apply AWp.seq;apply Y1;refine Wm ?_;refine Wq Qz.cmpT ?_;apply Y0;refine Ct ?_;apply Ys;apply AWp.seq;apply AWp.block;apply Y1;refine Wm ?_;refine Wq Qz.ixP ?_;refine Wq Qz.ldX1 ?_;refine Wq Qz.cmpF ?_;refine Wm ?_;refine Ws ?_;refine Ws ?_;refine Ws ?_;refine Ws ?_;refine Ws ?_;refine Wq Qz.pickF ?_;apply Y0;refine Cf ?_;apply AWp.skip;apply ABlock.normal;apply Yn;apply AWp.region;refine Wm ?_;refine Wq Qz.succ ?_;refine Wa ?_;apply AWl.nil
    refine ALoop.next (z - (k+1)) (by omega) ⟨k+1,by omega,rfl,rfl⟩ ?_
    exact AS.le_of (by refine Yp ?_;refine Yp ?_;refine Yd ?_;exact FrLe.nil) (by apply Yv;apply Yv;exact HpLe.nil)
  ·obtain rfl : k = z := by omega
   apply AWp.seq;apply Y1;refine Wm ?_;refine Wq Qz.cmpT ?_;apply Y0;refine Ct ?_;apply Ys;apply AWp.seq;apply AWp.block;apply Y1;refine Wm ?_;refine Wq Qz.ixP ?_;refine Wq Qz.ldX1 ?_;refine Wq Qz.cmpT ?_;refine Wm ?_;refine Wg Qz.move ?_;refine Wg Qz.ixP ?_;(refine AWs.qG rfl rfl rfl rfl rfl ?_;refine ⟨_,Qs.ldX1 (ao rfl) rfl (tab_of rfl) rfl (CellAt.p8 (by omega)),?_⟩);refine Wg Qz.lenN ?_;refine Wg Qz.cmpT ?_;refine Wq Qz.pickT ?_;apply Y0;refine Ct ?_;apply Y1;refine Wa ?_;apply Y0;apply AWp.ret;apply ABlock.ret;apply AThen.ret;apply ALoop.ret;apply ABlock.ret;apply AThen.ret
   exact Yf
def bigS (m : Nat→Int) (b:Nat→Nat→Int) (k:Nat):Nat→Int
 | 0=>0
 | i+1=>bigS m b k i+m i*b i k
theorem bigS_le {m : Nat→Int} {b:Nat→Nat→Int} {k:Nat} {d:Int} (hm:∀ i,i<8→0≤m i) (hb:∀ i,i<8→0≤b i k∧b i k≤d):∀ i,i≤8→0≤bigS m b k i∧bigS m b k i≤sumTo m i*d
 | 0,_=>by simp [bigS,sumTo]
 | i+1,h=>by
  obtain ⟨h1,h2⟩:=bigS_le hm hb i (by omega)
  obtain ⟨h3,h4⟩:=hb i (by omega)
  have h5:=hm i (by omega)
  have h6:0≤m i*b i k:=Int.mul_nonneg h5 h3
  have h7:m i*b i k≤m i*d:=Int.mul_le_mul_of_nonneg_left h4 h5
  have h8:sumTo m (i+1) = sumTo m i+m i:=rfl
  rw [h8,Int.add_mul]
  simp only [bigS]
  omega
theorem tooBigF_abs (m : Nat→Int) (b:Nat→Nat→Int) (hm:∀ i,i<8→0≤m i∧m i≤65535) (hb:∀ i,i<8→∀ k,k<8→0≤b i k∧b i k≤65535) (hp:∀ k,k<8→∀ i,i≤8→-1000000000000≤bigS m b k i∧bigS m b k i≤1000000000000) (h:∀ k,k<8→bigS m b k 8≤65535):Abs Tryz.prog 112 [agD (monC m),agD (row8 b)] (ex (.bool false)):=by
 refine Ab Tryz.func112 fun s0=>?_
 rw [Tryz.ntmps112]
 apply Y1;refine AWs.bx (ao rfl) rfl rfl rfl rfl ?_;refine AWs.bx (ao rfl) rfl rfl rfl rfl ?_;refine Wa ?_;apply Y0;apply AWp.seq;apply Y1;refine Wm ?_;apply Y0;apply AWp.block
 refine AWp.loop (fun mz σ=>∃ k,k≤8∧mz = 8 - k∧σ = ⟨[(2,.ptr 0 0),(3,.ptr 1 0),(9,.d (ex (.int .i64 (k:Nat))))],[.var 31 ((monC m).map .d),.var 120 ((row8 b).map .d)]⟩) ?le ⟨0,by omega,rfl,rfl⟩ ?round
 case le=>exact AS.le_of (by refine Yp ?_;refine Yp ?_;refine Yd ?_;exact FrLe.nil) (by apply Yv;apply Yv;exact HpLe.nil)
 case round =>
  rintro mz _ ⟨k,hk,rfl,rfl⟩
  by_cases hlt:k<8
  ·have h1:=h k hlt
   apply Y1;refine Wq Qz.cmpT ?_;apply Y0;apply AWp.seq;refine Ct ?_;apply Ys;apply AWp.seq;apply AWp.block;apply Y1;refine Wm ?_;refine Wa ?_;apply Y0;apply Y1;refine Wa ?_;apply Y0;apply AWp.seq;apply Y1;refine Wq Qz.ldD ?_;refine Wm ?_;apply Y0;apply AWp.block
   refine AWp.loop (fun mz σ=>∃ i,i≤8∧mz = 8 - i∧σ = ⟨[(2,.ptr 0 0),(3,.ptr 1 0),(9,.d (ex (.int .i64 (k:Nat)))),(5,.d (ex (.int .i64 (k:Nat)))),(6,.d (ex (.int .i64 (bigS m b k i)))),(12,.d (agD (monC m))),(13,.d (ex (.int .i64 (i:Nat))))],[.var 31 ((monC m).map .d),.var 120 ((row8 b).map .d)]⟩) ?lei ⟨0,by omega,rfl,rfl⟩ ?roundi
   case lei=>exact AS.le_of (by refine Yp ?_;refine Yp ?_;refine Yd ?_;refine Yd ?_;refine Yd ?_;refine Yd ?_;refine Yd ?_;exact FrLe.nil) (by apply Yv;apply Yv;exact HpLe.nil)
   case roundi =>
    rintro mz _ ⟨i,hi,rfl,rfl⟩
    by_cases hlti:i<8
    ·have h2:=hm i hlti
     have h3:=hb i hlti k hlt
     have h4:=hp k hlt i (by omega)
     have h5:=hp k hlt (i+1) (by omega)
     have h6:bigS m b k (i+1) = bigS m b k i+m i*b i k:=rfl
     have h7:0≤m i*b i k∧m i*b i k≤65535*65535:=⟨Int.mul_nonneg h2.1 h3.1,Int.mul_le_mul h2.2 h3.2 h3.1 (by omega)⟩
     apply Y1;refine Wq Qz.cmpT ?_;apply Y0;apply AWp.seq;refine Ct ?_;apply Ys;apply AWp.seq;apply AWp.block;apply Y1;refine Wm ?_;refine Wq Qz.atX1 ?_;refine Wa ?_;refine Wa ?_;apply Y0;apply AWp.region;refine Wm ?_;refine Wm ?_;refine Wm ?_;refine Wm ?_;refine Wq Qz.ixP ?_;refine Wq Qz.ixP ?_;(refine AWs.q rfl rfl ?_;refine ⟨_,Qs.ldX1 (ao rfl) rfl (tab_of rfl) rfl (CellAt.r8 (by omega) (by omega)),?_⟩);refine Wq Qz.mul ?_;refine Wq Qz.add ?_;refine Wa ?_;apply AWl.nil;apply ABlock.normal;apply Yn;apply AWp.region;refine Wq Qz.succ ?_;refine Wm ?_;apply AWl.nil
     refine ALoop.next (8 - (i+1)) (by omega) ⟨i+1,by omega,rfl,rfl⟩ ?_
     exact AS.le_of (by refine Yp ?_;refine Yp ?_;refine Yd ?_;refine Yd ?_;refine Yd ?_;refine Yd ?_;refine Yd ?_;exact FrLe.nil) (by apply Yv;apply Yv;exact HpLe.nil)
    ·obtain rfl : i = 8 := by omega
     apply Y1;refine Wq Qz.cmpF ?_;apply Y0;apply AWp.seq;refine Cf ?_;apply AWp.exit;apply AThen.exit;apply ALoop.exit;apply ABlock.hit;apply Yn;apply Y1;refine Wm ?_;refine Wq Qz.cmpF ?_;apply Y0;refine Cf ?_;apply AWp.skip;apply ABlock.normal;apply Yn;apply AWp.region;refine Wq Qz.succ ?_;refine Wm ?_;apply AWl.nil
     refine ALoop.next (8 - (k+1)) (by omega) ⟨k+1,by omega,rfl,rfl⟩ ?_
     exact AS.le_of (by refine Yp ?_;refine Yp ?_;refine Yd ?_;exact FrLe.nil) (by apply Yv;apply Yv;exact HpLe.nil)
  ·obtain rfl : k = 8 := by omega
   apply Y1;refine Wq Qz.cmpF ?_;apply Y0;apply AWp.seq;refine Cf ?_;apply AWp.exit;apply AThen.exit;apply ALoop.exit;apply ABlock.hit;apply Yn;apply Y1;refine Wa ?_;apply Y0;apply AWp.ret
   exact Yf
def pw (P : List Tm):Nat→List Tm
 | 0=>P
 | k+1=>pmul (pw P k) P
abbrev powL (P : List Tm) (n:Nat):List (List Tm):=(List.range n).map (pw P)
theorem powL_length (P : List Tm) (n:Nat):(powL P n).length = n:=by simp
theorem powL_get (P : List Tm) {n k:Nat} (h:k<n):(powL P n).getD k default = pw P k:=by
 simp [List.getD_eq_getElem?_getD,List.getElem?_range h]
abbrev rowP (l : List (List Tm)):List (List D):=l.map fun p=>[polD p]
theorem rowP_snoc (P : List Tm) (n:Nat):rowP (powL P n) ++ [[polD (pw P n)]] = rowP (powL P (n+1)):=by
 simp only [powL,rowP,List.range_succ,List.map_append,List.map_cons,List.map_nil]
abbrev tabHt (B : Nat→List Tm) (l:Nat→Nat) (z:List Ow):List Ow:=.var 144 [.own 2,.own 3,.own 4,.own 5,.own 6,.own 7,.own 8,.own 9] :: .var 77 ((pol8 B).map .d) :: .row 23 1 (rowP (powL (B 0) (l 0))) :: .row 23 1 (rowP (powL (B 1) (l 1))) :: .row 23 1 (rowP (powL (B 2) (l 2))) :: .row 23 1 (rowP (powL (B 3) (l 3))) :: .row 23 1 (rowP (powL (B 4) (l 4))) :: .row 23 1 (rowP (powL (B 5) (l 5))) :: .row 23 1 (rowP (powL (B 6) (l 6))) :: .row 23 1 (rowP (powL (B 7) (l 7))) :: z
abbrev tabH (B : Nat→List Tm) (l:Nat→Nat):List Ow:=tabHt B l []
theorem powers_con (B : Nat→List Tm):Con Tryz.prog 113 [.d (agD (pol8 B))] [] [] (fun r hp'=>r = .fn 149 [2,1]∧hp' = [.dead,.var 77 ((pol8 B).map .d),.var 144 [.own 3,.own 4,.own 5,.own 6,.own 7,.own 8,.own 9,.own 10],.row 23 1 [],.row 23 1 [],.row 23 1 [],.row 23 1 [],.row 23 1 [],.row 23 1 [],.row 23 1 [],.row 23 1 []]):=by
 refine Con.intro0 Tryz.func113 rfl (callFunc_run Tryz.func113 (by kernel_rfl) (by kernel_rfl)) rfl fun s0=>?_
 rw [Tryz.ntmps113]
 apply Y1;refine AWs.bx (ao rfl) rfl rfl rfl rfl ?_;refine Wa ?_;apply Y0;apply Y1;refine AWs.al (tab_of rfl) rfl rfl rfl rfl rfl rfl ?_;apply Y0;apply Y1
 refine AWl.weaken (AS.nilCell 2 0 23 1 rfl rfl (by decide) (by omega) rfl rfl rfl rfl) ?_
 refine AWl.weaken (AS.nilCell 2 1 23 1 rfl rfl (by decide) (by omega) rfl rfl rfl rfl) ?_
 refine AWl.weaken (AS.nilCell 2 2 23 1 rfl rfl (by decide) (by omega) rfl rfl rfl rfl) ?_
 refine AWl.weaken (AS.nilCell 2 3 23 1 rfl rfl (by decide) (by omega) rfl rfl rfl rfl) ?_
 refine AWl.weaken (AS.nilCell 2 4 23 1 rfl rfl (by decide) (by omega) rfl rfl rfl rfl) ?_
 refine AWl.weaken (AS.nilCell 2 5 23 1 rfl rfl (by decide) (by omega) rfl rfl rfl rfl) ?_
 refine AWl.weaken (AS.nilCell 2 6 23 1 rfl rfl (by decide) (by omega) rfl rfl rfl rfl) ?_
 refine AWl.weaken (AS.nilCell 2 7 23 1 rfl rfl (by decide) (by omega) rfl rfl rfl rfl) ?_
 (refine AWs.q rfl rfl ?_;refine ⟨_,Qs.mkFn [2,1] rfl,?_⟩);refine Wa ?_;apply Y0;apply AWp.ret
 refine FinC.ret (RetsA.one rfl) rfl ?_ rfl
 exact ⟨rfl,rfl⟩
theorem powers1_0 (B : Nat→List Tm) (l:Nat→Nat) (e E n N L M:Nat) (d0 d:Int) (hP:PB (B 0) n N d0) (hb:∀ k,k<E→PB (pw (B 0) k) L M d) (h0:0≤d0) (h0':0≤d) (hd:d+d0≤65535) (hn:L*n≤100000) (hN:M+N+1≤10000000) (he0:0<e) (he:e≤E) (hl:l 0≤E) (hE:E≤1000) :
  Con Tryz.prog 149 [.d (ex (.int .i64 ((0:Nat):Int))),.d (ex (.int .i64 (e:Nat))),.ptr 0 0,.ptr 1 0] (tabH B l) [2,3,4,5,6,7,8,9] (fun r hp'=>∃ n',n'≤E∧r = .d (polD (pw (B 0) (e - 1)))∧hp' = tabHt B (upF l 0 n') [.dead]):=by
 have hlen0:=powL_length (B 0) (l 0)
 refine Con.intro10 Tryz.func149 rfl (callFunc_run Tryz.func149 (by kernel_rfl) (by kernel_rfl)) rfl fun s0 pv0 pv1 pv2 pv3 pv4 pv5 pv6 pv7 pv8 pv9=>?_
 rw [Tryz.ntmps149]
 by_cases hz:l 0 = 0
 ·apply AWp.seq; apply AWp.region; refine Wa ?_; apply AWl.nil; apply Yn; apply AWp.seq; apply AWp.seq; apply AWp.region; refine Wm ?_; refine Wq Qz.ixP ?_; refine Wq Qz.loadP1 ?_; refine Wq Qz.lenN ?_; refine Wq Qz.cmpT ?_; apply AWl.nil; apply Yn; refine Ct ?_; apply AWp.region; refine Wm ?_; refine Wm ?_; refine Wq Qz.ixP ?_; (refine AWs.q rfl rfl ?_; refine ⟨_, Qs.ldX1 (ao rfl) rfl (tab_of rfl) rfl (CellAt.p8 (by omega)), ?_⟩); (refine AWs.seat1 2 (tab_of rfl) (tab_of rfl) rfl rfl (ao rfl) (by first | exact One.ex_ rfl | exact One.sl | exact One.ep) rfl rfl rfl rfl (by repeat (first | exact DownR.nil | apply DownR.var | apply DownR.row | apply DownR.obj | apply DownR.dead | (apply DownR.pin; rfl) | (apply DownR.varA; rfl))) rfl ?_); refine Wq Qz.ixP ?_; refine AWs.stA1 (ao rfl) (ao rfl) rfl (tab_of rfl) (by first | exact One.own rfl | exact One.sl) rfl rfl ?_; apply AWl.nil; apply Yn; apply AWp.seq; apply AWp.block
  have hx:∀ k,k<e - 1→Abs Tryz.prog 18 [polD ((powL (B 0) (1+k)).getD ((powL (B 0) (1+k)).length - 1) default),polD (B 0)] (tupD [polD (pw (B 0) (1+k)),ex (.int .i64 0)]):=fun k hk=>by
   rw [powL_length,powL_get (B 0) (by omega)]
   obtain ⟨j,hj⟩:∃ j,1+k = j+1:=⟨1+k - 1,by omega⟩
   rw [hj]
   exact PMul_pb (hb j (by omega)) hP h0' h0 hd hn hN
  refine AWp.loop (fun mz σ=>∃ k,k≤e - 1∧mz = e - 1 - k∧σ = ⟨[(0,.d (ex (.int .i64 ((0:Nat):Int)))),(1,.d (ex (.int .i64 (e:Nat)))),(2,.ptr 0 0),(3,.ptr 1 0)],[.var 144 [.own 2,.own 3,.own 4,.own 5,.own 6,.own 7,.own 8,.own 9],.var 77 ((pol8 B).map .d),.row 23 1 (rowP (powL (B 0) (1+k))),.row 23 1 (rowP (powL (B 1) (l 1))),.row 23 1 (rowP (powL (B 2) (l 2))),.row 23 1 (rowP (powL (B 3) (l 3))),.row 23 1 (rowP (powL (B 4) (l 4))),.row 23 1 (rowP (powL (B 5) (l 5))),.row 23 1 (rowP (powL (B 6) (l 6))),.row 23 1 (rowP (powL (B 7) (l 7))),.pin [(pv0,.own 0),(pv1,.own 1)]]⟩) ?le ⟨0,by omega,rfl,rfl⟩ ?round
  case le=>exact AS.le_of (by refine Yd ?_;refine Yd ?_;refine Yp ?_;refine Yp ?_;exact FrLe.nil) (by refine HpLe.cons (OwLe.varB rfl) ?_;apply Yv;apply Yr;apply Yr;apply Yr;apply Yr;apply Yr;apply Yr;apply Yr;apply Yr;refine HpLe.cons (OwLe.pinB rfl) ?_;exact HpLe.nil)
  case round =>
   rintro mz _ ⟨k,hk,rfl,rfl⟩
   by_cases hlt:k<e - 1
   ·have hlen:=powL_length (B 0) (1+k)
    have hsn:=rowP_snoc (B 0) (1+k)
    apply AWp.seq;apply Y1;refine Wm ?_;refine Wq Qz.ixP ?_;refine Wq Qz.loadP1 ?_;refine Wq Qz.lenN ?_;refine Wm ?_;refine Wq Qz.cmpT ?_;apply Y0;refine Ct ?_;apply Ys;apply AWp.block;apply AWp.seq
    refine AWp.dr' (DrawOk.float (e:=16) (by kernel_rfl) (K4 (K4 (K4 (K4 (AddE.keep (AddE.add (AddE.keep AddE.nil))))))) (by kernel_rfl)) [[],[(27,0)],[(28,1)],[],[(30,3)],[(31,4)],[(32,5)],[(33,6)],[(29,2),(34,7)],[(35,8)],[],[(37,10)],[(38,11)],[(36,9),(39,12)],[(40,13)],[(26,14)],[(26,14)]] [[],[0],[0,1],[],[3],[3,4],[3,4,5],[3,4,5,6],[0,1,2,3,4,5,6,7],[0,1,2,3,4,5,6,7,8],[],[10],[10,11],[0,1,2,3,4,5,6,7,8,9,10,11,12],[0,1,2,3,4,5,6,7,8,9,10,11,12,13],[0,1,2,3,4,5,6,7,8,9,10,11,12,13,14],[0,1,2,3,4,5,6,7,8,9,10,11,12,13,14]] rfl (by kernel_rfl) (by kernel_rfl) (by kernel_rfl) ?_
    refine Xq Qz.move ?_;refine Xq Qz.ixP ?_;refine Xq Qz.loadP1 ?_;refine Xq Qz.move ?_;refine Xq Qz.ixP ?_;refine Xq Qz.loadP1 ?_;refine Xq Qz.lenN ?_;refine Xq Qz.pred ?_;refine Xq Qz.indexN ?_;refine Xq Qz.ldE1 ?_;refine Xq Qz.move ?_;refine Xq Qz.ixP ?_;(refine ⟨_,HStep.q rfl (Qs.ldX1 (ah rfl) rfl (tab_of rfl) rfl (CellAt.p8 (by omega))),?_⟩;refine ⟨_,rfl,?_⟩);refine Xq (Qz.call (hx k hlt)) ?_;refine Xq Qz.move ?_;refine Xq Qz.ext ?_;refine Xq Qz.ext ?_;refine ⟨_,rfl,?_⟩
    refine Wa ?_;refine Wa ?_;apply AWl.nil;apply OnlyN.mk';apply Yn;apply AWp.region;refine Wm ?_;refine Wm ?_;refine Wq Qz.ixP ?_;refine Wq Qz.loadP1 ?_;refine Wm ?_;(refine AWs.q rfl rfl ?_;(refine Bq.slice (tab_of rfl) (tab_of rfl) rfl rfl rfl rfl rfl ?_;(repeat ((first | refine ⟨_,PartOk.ag (ao rfl),?_⟩ | refine ⟨_,PartOk.one rfl (by first | exact One.ex_ rfl | exact One.sl | exact One.ep),?_⟩);refine ⟨_,rfl,?_⟩));refine ⟨_,rfl,?_⟩));(refine AWs.appA (ao rfl) rfl rfl (tab_of rfl) (tab_of rfl) rfl rfl (by simp [chunks_length];omega) (by simp [chunks_length];omega) rfl (by repeat (first | exact DownR.nil | apply DownR.var | apply DownR.row | apply DownR.obj | apply DownR.dead | (apply DownR.pin;rfl) | (apply DownR.varA;rfl))) rfl ?_);refine Wq Qz.ixP ?_;refine AWs.stA1 (ao rfl) (ao rfl) rfl (tab_of rfl) (by first | exact One.own rfl | exact One.sl) rfl rfl ?_;apply AWl.nil;apply ABlock.normal
    refine ALoop.next (e - 1 - (k+1)) (by omega) ⟨k+1,by omega,rfl,rfl⟩ ?_
    exact AS.le_of (by refine Yd ?_;refine Yd ?_;refine Yp ?_;refine Yp ?_;exact FrLe.nil) (by refine HpLe.cons (OwLe.varB rfl) ?_;apply Yv;refine HpLe.cons (OwLe.row hsn) ?_;apply Yr;apply Yr;apply Yr;apply Yr;apply Yr;apply Yr;apply Yr;refine HpLe.cons (OwLe.pinB rfl) ?_;exact HpLe.nil)
   ·obtain rfl : k = e - 1 := by omega
    have hlen:=powL_length (B 0) (1+(e - 1))
    apply AWp.seq;apply Y1;refine Wm ?_;refine Wq Qz.ixP ?_;refine Wq Qz.loadP1 ?_;refine Wq Qz.lenN ?_;refine Wm ?_;refine Wq Qz.cmpF ?_;apply Y0;refine Cf ?_;apply AWp.exit;apply AThen.exit;apply ALoop.exit;apply ABlock.hit;apply Yn;apply Y1;refine Wm ?_;refine Wq Qz.ixP ?_;refine Wq Qz.loadP1 ?_;refine Wm ?_;refine Wq Qz.pred ?_;refine Wq Qz.indexN ?_;refine Wq Qz.ldE1 ?_;refine Wa ?_;apply Y0;apply AWp.ret
    refine FinC.ret (RetsA.d (Rets.of1 (ResV.tmp rfl rfl) (D.le.of_eq (congrArg polD (powL_get (B 0) (by omega)))))) rfl ?_ rfl
    exact ⟨1+(e - 1),by omega,rfl,rfl⟩
 ·apply Y1;refine Wa ?_;apply Y0;apply AWp.seq;apply Y1;refine Wm ?_;refine Wq Qz.ixP ?_;refine Wq Qz.loadP1 ?_;refine Wq Qz.lenN ?_;refine Wq Qz.cmpF ?_;apply Y0;refine Cf ?_;apply Ys;apply AWp.seq;apply AWp.block
  have hx:∀ k,k<e - l 0→Abs Tryz.prog 18 [polD ((powL (B 0) (l 0+k)).getD ((powL (B 0) (l 0+k)).length - 1) default),polD (B 0)] (tupD [polD (pw (B 0) (l 0+k)),ex (.int .i64 0)]):=fun k hk=>by
   rw [powL_length,powL_get (B 0) (by omega)]
   obtain ⟨j,hj⟩:∃ j,l 0+k = j+1:=⟨l 0+k - 1,by omega⟩
   rw [hj]
   exact PMul_pb (hb j (by omega)) hP h0' h0 hd hn hN
  refine AWp.loop (fun mz σ=>∃ k,k≤e - l 0∧mz = e - l 0 - k∧σ = ⟨[(0,.d (ex (.int .i64 ((0:Nat):Int)))),(1,.d (ex (.int .i64 (e:Nat)))),(2,.ptr 0 0),(3,.ptr 1 0)],[.var 144 [.own 2,.own 3,.own 4,.own 5,.own 6,.own 7,.own 8,.own 9],.var 77 ((pol8 B).map .d),.row 23 1 (rowP (powL (B 0) (l 0+k))),.row 23 1 (rowP (powL (B 1) (l 1))),.row 23 1 (rowP (powL (B 2) (l 2))),.row 23 1 (rowP (powL (B 3) (l 3))),.row 23 1 (rowP (powL (B 4) (l 4))),.row 23 1 (rowP (powL (B 5) (l 5))),.row 23 1 (rowP (powL (B 6) (l 6))),.row 23 1 (rowP (powL (B 7) (l 7))),.pin [(pv0,.own 0),(pv1,.own 1)]]⟩) ?le ⟨0,by omega,rfl,rfl⟩ ?round
  case le=>exact AS.le_of (by refine Yd ?_;refine Yd ?_;refine Yp ?_;refine Yp ?_;exact FrLe.nil) (by refine HpLe.cons (OwLe.varB rfl) ?_;apply Yv;apply Yr;apply Yr;apply Yr;apply Yr;apply Yr;apply Yr;apply Yr;apply Yr;refine HpLe.cons (OwLe.pinB rfl) ?_;exact HpLe.nil)
  case round =>
   rintro mz _ ⟨k,hk,rfl,rfl⟩
   by_cases hlt:k<e - l 0
   ·have hlen:=powL_length (B 0) (l 0+k)
    have hsn:=rowP_snoc (B 0) (l 0+k)
    apply AWp.seq;apply Y1;refine Wm ?_;refine Wq Qz.ixP ?_;refine Wq Qz.loadP1 ?_;refine Wq Qz.lenN ?_;refine Wm ?_;refine Wq Qz.cmpT ?_;apply Y0;refine Ct ?_;apply Ys;apply AWp.block;apply AWp.seq
    refine AWp.dr' (DrawOk.float (e:=16) (by kernel_rfl) (K4 (K4 (K4 (K4 (AddE.keep (AddE.add (AddE.keep AddE.nil))))))) (by kernel_rfl)) [[],[(27,0)],[(28,1)],[],[(30,3)],[(31,4)],[(32,5)],[(33,6)],[(29,2),(34,7)],[(35,8)],[],[(37,10)],[(38,11)],[(36,9),(39,12)],[(40,13)],[(26,14)],[(26,14)]] [[],[0],[0,1],[],[3],[3,4],[3,4,5],[3,4,5,6],[0,1,2,3,4,5,6,7],[0,1,2,3,4,5,6,7,8],[],[10],[10,11],[0,1,2,3,4,5,6,7,8,9,10,11,12],[0,1,2,3,4,5,6,7,8,9,10,11,12,13],[0,1,2,3,4,5,6,7,8,9,10,11,12,13,14],[0,1,2,3,4,5,6,7,8,9,10,11,12,13,14]] rfl (by kernel_rfl) (by kernel_rfl) (by kernel_rfl) ?_
    refine Xq Qz.move ?_;refine Xq Qz.ixP ?_;refine Xq Qz.loadP1 ?_;refine Xq Qz.move ?_;refine Xq Qz.ixP ?_;refine Xq Qz.loadP1 ?_;refine Xq Qz.lenN ?_;refine Xq Qz.pred ?_;refine Xq Qz.indexN ?_;refine Xq Qz.ldE1 ?_;refine Xq Qz.move ?_;refine Xq Qz.ixP ?_;(refine ⟨_,HStep.q rfl (Qs.ldX1 (ah rfl) rfl (tab_of rfl) rfl (CellAt.p8 (by omega))),?_⟩;refine ⟨_,rfl,?_⟩);refine Xq (Qz.call (hx k hlt)) ?_;refine Xq Qz.move ?_;refine Xq Qz.ext ?_;refine Xq Qz.ext ?_;refine ⟨_,rfl,?_⟩
    refine Wa ?_;refine Wa ?_;apply AWl.nil;apply OnlyN.mk';apply Yn;apply AWp.region;refine Wm ?_;refine Wm ?_;refine Wq Qz.ixP ?_;refine Wq Qz.loadP1 ?_;refine Wm ?_;(refine AWs.q rfl rfl ?_;(refine Bq.slice (tab_of rfl) (tab_of rfl) rfl rfl rfl rfl rfl ?_;(repeat ((first | refine ⟨_,PartOk.ag (ao rfl),?_⟩ | refine ⟨_,PartOk.one rfl (by first | exact One.ex_ rfl | exact One.sl | exact One.ep),?_⟩);refine ⟨_,rfl,?_⟩));refine ⟨_,rfl,?_⟩));(refine AWs.appA (ao rfl) rfl rfl (tab_of rfl) (tab_of rfl) rfl rfl (by simp [chunks_length];omega) (by simp [chunks_length];omega) rfl (by repeat (first | exact DownR.nil | apply DownR.var | apply DownR.row | apply DownR.obj | apply DownR.dead | (apply DownR.pin;rfl) | (apply DownR.varA;rfl))) rfl ?_);refine Wq Qz.ixP ?_;refine AWs.stA1 (ao rfl) (ao rfl) rfl (tab_of rfl) (by first | exact One.own rfl | exact One.sl) rfl rfl ?_;apply AWl.nil;apply ABlock.normal
    refine ALoop.next (e - l 0 - (k+1)) (by omega) ⟨k+1,by omega,rfl,rfl⟩ ?_
    exact AS.le_of (by refine Yd ?_;refine Yd ?_;refine Yp ?_;refine Yp ?_;exact FrLe.nil) (by refine HpLe.cons (OwLe.varB rfl) ?_;apply Yv;refine HpLe.cons (OwLe.row hsn) ?_;apply Yr;apply Yr;apply Yr;apply Yr;apply Yr;apply Yr;apply Yr;refine HpLe.cons (OwLe.pinB rfl) ?_;exact HpLe.nil)
   ·obtain rfl : k = e - l 0 := by omega
    have hlen:=powL_length (B 0) (l 0+(e - l 0))
    apply AWp.seq;apply Y1;refine Wm ?_;refine Wq Qz.ixP ?_;refine Wq Qz.loadP1 ?_;refine Wq Qz.lenN ?_;refine Wm ?_;refine Wq Qz.cmpF ?_;apply Y0;refine Cf ?_;apply AWp.exit;apply AThen.exit;apply ALoop.exit;apply ABlock.hit;apply Yn;apply Y1;refine Wm ?_;refine Wq Qz.ixP ?_;refine Wq Qz.loadP1 ?_;refine Wm ?_;refine Wq Qz.pred ?_;refine Wq Qz.indexN ?_;refine Wq Qz.ldE1 ?_;refine Wa ?_;apply Y0;apply AWp.ret
    refine FinC.ret (RetsA.d (Rets.of1 (ResV.tmp rfl rfl) (D.le.of_eq (congrArg polD (powL_get (B 0) (by omega)))))) rfl ?_ rfl
    exact ⟨l 0+(e - l 0),by omega,rfl,rfl⟩
theorem powers1_1 (B : Nat→List Tm) (l:Nat→Nat) (e E n N L M:Nat) (d0 d:Int) (hP:PB (B 1) n N d0) (hb:∀ k,k<E→PB (pw (B 1) k) L M d) (h0:0≤d0) (h0':0≤d) (hd:d+d0≤65535) (hn:L*n≤100000) (hN:M+N+1≤10000000) (he0:0<e) (he:e≤E) (hl:l 1≤E) (hE:E≤1000) :
  Con Tryz.prog 149 [.d (ex (.int .i64 ((1:Nat):Int))),.d (ex (.int .i64 (e:Nat))),.ptr 0 0,.ptr 1 0] (tabH B l) [2,3,4,5,6,7,8,9] (fun r hp'=>∃ n',n'≤E∧r = .d (polD (pw (B 1) (e - 1)))∧hp' = tabHt B (upF l 1 n') [.dead]):=by
 have hlen0:=powL_length (B 1) (l 1)
 refine Con.intro10 Tryz.func149 rfl (callFunc_run Tryz.func149 (by kernel_rfl) (by kernel_rfl)) rfl fun s0 pv0 pv1 pv2 pv3 pv4 pv5 pv6 pv7 pv8 pv9=>?_
 rw [Tryz.ntmps149]
 by_cases hz:l 1 = 0
 ·apply AWp.seq; apply AWp.region; refine Wa ?_; apply AWl.nil; apply Yn; apply AWp.seq; apply AWp.seq; apply AWp.region; refine Wm ?_; refine Wq Qz.ixP ?_; refine Wq Qz.loadP1 ?_; refine Wq Qz.lenN ?_; refine Wq Qz.cmpT ?_; apply AWl.nil; apply Yn; refine Ct ?_; apply AWp.region; refine Wm ?_; refine Wm ?_; refine Wq Qz.ixP ?_; (refine AWs.q rfl rfl ?_; refine ⟨_, Qs.ldX1 (ao rfl) rfl (tab_of rfl) rfl (CellAt.p8 (by omega)), ?_⟩); (refine AWs.seat1 3 (tab_of rfl) (tab_of rfl) rfl rfl (ao rfl) (by first | exact One.ex_ rfl | exact One.sl | exact One.ep) rfl rfl rfl rfl (by repeat (first | exact DownR.nil | apply DownR.var | apply DownR.row | apply DownR.obj | apply DownR.dead | (apply DownR.pin; rfl) | (apply DownR.varA; rfl))) rfl ?_); refine Wq Qz.ixP ?_; refine AWs.stA1 (ao rfl) (ao rfl) rfl (tab_of rfl) (by first | exact One.own rfl | exact One.sl) rfl rfl ?_; apply AWl.nil; apply Yn; apply AWp.seq; apply AWp.block
  have hx:∀ k,k<e - 1→Abs Tryz.prog 18 [polD ((powL (B 1) (1+k)).getD ((powL (B 1) (1+k)).length - 1) default),polD (B 1)] (tupD [polD (pw (B 1) (1+k)),ex (.int .i64 0)]):=fun k hk=>by
   rw [powL_length,powL_get (B 1) (by omega)]
   obtain ⟨j,hj⟩:∃ j,1+k = j+1:=⟨1+k - 1,by omega⟩
   rw [hj]
   exact PMul_pb (hb j (by omega)) hP h0' h0 hd hn hN
  refine AWp.loop (fun mz σ=>∃ k,k≤e - 1∧mz = e - 1 - k∧σ = ⟨[(0,.d (ex (.int .i64 ((1:Nat):Int)))),(1,.d (ex (.int .i64 (e:Nat)))),(2,.ptr 0 0),(3,.ptr 1 0)],[.var 144 [.own 2,.own 3,.own 4,.own 5,.own 6,.own 7,.own 8,.own 9],.var 77 ((pol8 B).map .d),.row 23 1 (rowP (powL (B 0) (l 0))),.row 23 1 (rowP (powL (B 1) (1+k))),.row 23 1 (rowP (powL (B 2) (l 2))),.row 23 1 (rowP (powL (B 3) (l 3))),.row 23 1 (rowP (powL (B 4) (l 4))),.row 23 1 (rowP (powL (B 5) (l 5))),.row 23 1 (rowP (powL (B 6) (l 6))),.row 23 1 (rowP (powL (B 7) (l 7))),.pin [(pv0,.own 0),(pv1,.own 1)]]⟩) ?le ⟨0,by omega,rfl,rfl⟩ ?round
  case le=>exact AS.le_of (by refine Yd ?_;refine Yd ?_;refine Yp ?_;refine Yp ?_;exact FrLe.nil) (by refine HpLe.cons (OwLe.varB rfl) ?_;apply Yv;apply Yr;apply Yr;apply Yr;apply Yr;apply Yr;apply Yr;apply Yr;apply Yr;refine HpLe.cons (OwLe.pinB rfl) ?_;exact HpLe.nil)
  case round =>
   rintro mz _ ⟨k,hk,rfl,rfl⟩
   by_cases hlt:k<e - 1
   ·have hlen:=powL_length (B 1) (1+k)
    have hsn:=rowP_snoc (B 1) (1+k)
    apply AWp.seq;apply Y1;refine Wm ?_;refine Wq Qz.ixP ?_;refine Wq Qz.loadP1 ?_;refine Wq Qz.lenN ?_;refine Wm ?_;refine Wq Qz.cmpT ?_;apply Y0;refine Ct ?_;apply Ys;apply AWp.block;apply AWp.seq
    refine AWp.dr' (DrawOk.float (e:=16) (by kernel_rfl) (K4 (K4 (K4 (K4 (AddE.keep (AddE.add (AddE.keep AddE.nil))))))) (by kernel_rfl)) [[],[(27,0)],[(28,1)],[],[(30,3)],[(31,4)],[(32,5)],[(33,6)],[(29,2),(34,7)],[(35,8)],[],[(37,10)],[(38,11)],[(36,9),(39,12)],[(40,13)],[(26,14)],[(26,14)]] [[],[0],[0,1],[],[3],[3,4],[3,4,5],[3,4,5,6],[0,1,2,3,4,5,6,7],[0,1,2,3,4,5,6,7,8],[],[10],[10,11],[0,1,2,3,4,5,6,7,8,9,10,11,12],[0,1,2,3,4,5,6,7,8,9,10,11,12,13],[0,1,2,3,4,5,6,7,8,9,10,11,12,13,14],[0,1,2,3,4,5,6,7,8,9,10,11,12,13,14]] rfl (by kernel_rfl) (by kernel_rfl) (by kernel_rfl) ?_
    refine Xq Qz.move ?_;refine Xq Qz.ixP ?_;refine Xq Qz.loadP1 ?_;refine Xq Qz.move ?_;refine Xq Qz.ixP ?_;refine Xq Qz.loadP1 ?_;refine Xq Qz.lenN ?_;refine Xq Qz.pred ?_;refine Xq Qz.indexN ?_;refine Xq Qz.ldE1 ?_;refine Xq Qz.move ?_;refine Xq Qz.ixP ?_;(refine ⟨_,HStep.q rfl (Qs.ldX1 (ah rfl) rfl (tab_of rfl) rfl (CellAt.p8 (by omega))),?_⟩;refine ⟨_,rfl,?_⟩);refine Xq (Qz.call (hx k hlt)) ?_;refine Xq Qz.move ?_;refine Xq Qz.ext ?_;refine Xq Qz.ext ?_;refine ⟨_,rfl,?_⟩
    refine Wa ?_;refine Wa ?_;apply AWl.nil;apply OnlyN.mk';apply Yn;apply AWp.region;refine Wm ?_;refine Wm ?_;refine Wq Qz.ixP ?_;refine Wq Qz.loadP1 ?_;refine Wm ?_;(refine AWs.q rfl rfl ?_;(refine Bq.slice (tab_of rfl) (tab_of rfl) rfl rfl rfl rfl rfl ?_;(repeat ((first | refine ⟨_,PartOk.ag (ao rfl),?_⟩ | refine ⟨_,PartOk.one rfl (by first | exact One.ex_ rfl | exact One.sl | exact One.ep),?_⟩);refine ⟨_,rfl,?_⟩));refine ⟨_,rfl,?_⟩));(refine AWs.appA (ao rfl) rfl rfl (tab_of rfl) (tab_of rfl) rfl rfl (by simp [chunks_length];omega) (by simp [chunks_length];omega) rfl (by repeat (first | exact DownR.nil | apply DownR.var | apply DownR.row | apply DownR.obj | apply DownR.dead | (apply DownR.pin;rfl) | (apply DownR.varA;rfl))) rfl ?_);refine Wq Qz.ixP ?_;refine AWs.stA1 (ao rfl) (ao rfl) rfl (tab_of rfl) (by first | exact One.own rfl | exact One.sl) rfl rfl ?_;apply AWl.nil;apply ABlock.normal
    refine ALoop.next (e - 1 - (k+1)) (by omega) ⟨k+1,by omega,rfl,rfl⟩ ?_
    exact AS.le_of (by refine Yd ?_;refine Yd ?_;refine Yp ?_;refine Yp ?_;exact FrLe.nil) (by refine HpLe.cons (OwLe.varB rfl) ?_;apply Yv;apply Yr;refine HpLe.cons (OwLe.row hsn) ?_;apply Yr;apply Yr;apply Yr;apply Yr;apply Yr;apply Yr;refine HpLe.cons (OwLe.pinB rfl) ?_;exact HpLe.nil)
   ·obtain rfl : k = e - 1 := by omega
    have hlen:=powL_length (B 1) (1+(e - 1))
    apply AWp.seq;apply Y1;refine Wm ?_;refine Wq Qz.ixP ?_;refine Wq Qz.loadP1 ?_;refine Wq Qz.lenN ?_;refine Wm ?_;refine Wq Qz.cmpF ?_;apply Y0;refine Cf ?_;apply AWp.exit;apply AThen.exit;apply ALoop.exit;apply ABlock.hit;apply Yn;apply Y1;refine Wm ?_;refine Wq Qz.ixP ?_;refine Wq Qz.loadP1 ?_;refine Wm ?_;refine Wq Qz.pred ?_;refine Wq Qz.indexN ?_;refine Wq Qz.ldE1 ?_;refine Wa ?_;apply Y0;apply AWp.ret
    refine FinC.ret (RetsA.d (Rets.of1 (ResV.tmp rfl rfl) (D.le.of_eq (congrArg polD (powL_get (B 1) (by omega)))))) rfl ?_ rfl
    exact ⟨1+(e - 1),by omega,rfl,rfl⟩
 ·apply Y1;refine Wa ?_;apply Y0;apply AWp.seq;apply Y1;refine Wm ?_;refine Wq Qz.ixP ?_;refine Wq Qz.loadP1 ?_;refine Wq Qz.lenN ?_;refine Wq Qz.cmpF ?_;apply Y0;refine Cf ?_;apply Ys;apply AWp.seq;apply AWp.block
  have hx:∀ k,k<e - l 1→Abs Tryz.prog 18 [polD ((powL (B 1) (l 1+k)).getD ((powL (B 1) (l 1+k)).length - 1) default),polD (B 1)] (tupD [polD (pw (B 1) (l 1+k)),ex (.int .i64 0)]):=fun k hk=>by
   rw [powL_length,powL_get (B 1) (by omega)]
   obtain ⟨j,hj⟩:∃ j,l 1+k = j+1:=⟨l 1+k - 1,by omega⟩
   rw [hj]
   exact PMul_pb (hb j (by omega)) hP h0' h0 hd hn hN
  refine AWp.loop (fun mz σ=>∃ k,k≤e - l 1∧mz = e - l 1 - k∧σ = ⟨[(0,.d (ex (.int .i64 ((1:Nat):Int)))),(1,.d (ex (.int .i64 (e:Nat)))),(2,.ptr 0 0),(3,.ptr 1 0)],[.var 144 [.own 2,.own 3,.own 4,.own 5,.own 6,.own 7,.own 8,.own 9],.var 77 ((pol8 B).map .d),.row 23 1 (rowP (powL (B 0) (l 0))),.row 23 1 (rowP (powL (B 1) (l 1+k))),.row 23 1 (rowP (powL (B 2) (l 2))),.row 23 1 (rowP (powL (B 3) (l 3))),.row 23 1 (rowP (powL (B 4) (l 4))),.row 23 1 (rowP (powL (B 5) (l 5))),.row 23 1 (rowP (powL (B 6) (l 6))),.row 23 1 (rowP (powL (B 7) (l 7))),.pin [(pv0,.own 0),(pv1,.own 1)]]⟩) ?le ⟨0,by omega,rfl,rfl⟩ ?round
  case le=>exact AS.le_of (by refine Yd ?_;refine Yd ?_;refine Yp ?_;refine Yp ?_;exact FrLe.nil) (by refine HpLe.cons (OwLe.varB rfl) ?_;apply Yv;apply Yr;apply Yr;apply Yr;apply Yr;apply Yr;apply Yr;apply Yr;apply Yr;refine HpLe.cons (OwLe.pinB rfl) ?_;exact HpLe.nil)
  case round =>
   rintro mz _ ⟨k,hk,rfl,rfl⟩
   by_cases hlt:k<e - l 1
   ·have hlen:=powL_length (B 1) (l 1+k)
    have hsn:=rowP_snoc (B 1) (l 1+k)
    apply AWp.seq;apply Y1;refine Wm ?_;refine Wq Qz.ixP ?_;refine Wq Qz.loadP1 ?_;refine Wq Qz.lenN ?_;refine Wm ?_;refine Wq Qz.cmpT ?_;apply Y0;refine Ct ?_;apply Ys;apply AWp.block;apply AWp.seq
    refine AWp.dr' (DrawOk.float (e:=16) (by kernel_rfl) (K4 (K4 (K4 (K4 (AddE.keep (AddE.add (AddE.keep AddE.nil))))))) (by kernel_rfl)) [[],[(27,0)],[(28,1)],[],[(30,3)],[(31,4)],[(32,5)],[(33,6)],[(29,2),(34,7)],[(35,8)],[],[(37,10)],[(38,11)],[(36,9),(39,12)],[(40,13)],[(26,14)],[(26,14)]] [[],[0],[0,1],[],[3],[3,4],[3,4,5],[3,4,5,6],[0,1,2,3,4,5,6,7],[0,1,2,3,4,5,6,7,8],[],[10],[10,11],[0,1,2,3,4,5,6,7,8,9,10,11,12],[0,1,2,3,4,5,6,7,8,9,10,11,12,13],[0,1,2,3,4,5,6,7,8,9,10,11,12,13,14],[0,1,2,3,4,5,6,7,8,9,10,11,12,13,14]] rfl (by kernel_rfl) (by kernel_rfl) (by kernel_rfl) ?_
    refine Xq Qz.move ?_;refine Xq Qz.ixP ?_;refine Xq Qz.loadP1 ?_;refine Xq Qz.move ?_;refine Xq Qz.ixP ?_;refine Xq Qz.loadP1 ?_;refine Xq Qz.lenN ?_;refine Xq Qz.pred ?_;refine Xq Qz.indexN ?_;refine Xq Qz.ldE1 ?_;refine Xq Qz.move ?_;refine Xq Qz.ixP ?_;(refine ⟨_,HStep.q rfl (Qs.ldX1 (ah rfl) rfl (tab_of rfl) rfl (CellAt.p8 (by omega))),?_⟩;refine ⟨_,rfl,?_⟩);refine Xq (Qz.call (hx k hlt)) ?_;refine Xq Qz.move ?_;refine Xq Qz.ext ?_;refine Xq Qz.ext ?_;refine ⟨_,rfl,?_⟩
    refine Wa ?_;refine Wa ?_;apply AWl.nil;apply OnlyN.mk';apply Yn;apply AWp.region;refine Wm ?_;refine Wm ?_;refine Wq Qz.ixP ?_;refine Wq Qz.loadP1 ?_;refine Wm ?_;(refine AWs.q rfl rfl ?_;(refine Bq.slice (tab_of rfl) (tab_of rfl) rfl rfl rfl rfl rfl ?_;(repeat ((first | refine ⟨_,PartOk.ag (ao rfl),?_⟩ | refine ⟨_,PartOk.one rfl (by first | exact One.ex_ rfl | exact One.sl | exact One.ep),?_⟩);refine ⟨_,rfl,?_⟩));refine ⟨_,rfl,?_⟩));(refine AWs.appA (ao rfl) rfl rfl (tab_of rfl) (tab_of rfl) rfl rfl (by simp [chunks_length];omega) (by simp [chunks_length];omega) rfl (by repeat (first | exact DownR.nil | apply DownR.var | apply DownR.row | apply DownR.obj | apply DownR.dead | (apply DownR.pin;rfl) | (apply DownR.varA;rfl))) rfl ?_);refine Wq Qz.ixP ?_;refine AWs.stA1 (ao rfl) (ao rfl) rfl (tab_of rfl) (by first | exact One.own rfl | exact One.sl) rfl rfl ?_;apply AWl.nil;apply ABlock.normal
    refine ALoop.next (e - l 1 - (k+1)) (by omega) ⟨k+1,by omega,rfl,rfl⟩ ?_
    exact AS.le_of (by refine Yd ?_;refine Yd ?_;refine Yp ?_;refine Yp ?_;exact FrLe.nil) (by refine HpLe.cons (OwLe.varB rfl) ?_;apply Yv;apply Yr;refine HpLe.cons (OwLe.row hsn) ?_;apply Yr;apply Yr;apply Yr;apply Yr;apply Yr;apply Yr;refine HpLe.cons (OwLe.pinB rfl) ?_;exact HpLe.nil)
   ·obtain rfl : k = e - l 1 := by omega
    have hlen:=powL_length (B 1) (l 1+(e - l 1))
    apply AWp.seq;apply Y1;refine Wm ?_;refine Wq Qz.ixP ?_;refine Wq Qz.loadP1 ?_;refine Wq Qz.lenN ?_;refine Wm ?_;refine Wq Qz.cmpF ?_;apply Y0;refine Cf ?_;apply AWp.exit;apply AThen.exit;apply ALoop.exit;apply ABlock.hit;apply Yn;apply Y1;refine Wm ?_;refine Wq Qz.ixP ?_;refine Wq Qz.loadP1 ?_;refine Wm ?_;refine Wq Qz.pred ?_;refine Wq Qz.indexN ?_;refine Wq Qz.ldE1 ?_;refine Wa ?_;apply Y0;apply AWp.ret
    refine FinC.ret (RetsA.d (Rets.of1 (ResV.tmp rfl rfl) (D.le.of_eq (congrArg polD (powL_get (B 1) (by omega)))))) rfl ?_ rfl
    exact ⟨l 1+(e - l 1),by omega,rfl,rfl⟩
theorem powers1_2 (B : Nat→List Tm) (l:Nat→Nat) (e E n N L M:Nat) (d0 d:Int) (hP:PB (B 2) n N d0) (hb:∀ k,k<E→PB (pw (B 2) k) L M d) (h0:0≤d0) (h0':0≤d) (hd:d+d0≤65535) (hn:L*n≤100000) (hN:M+N+1≤10000000) (he0:0<e) (he:e≤E) (hl:l 2≤E) (hE:E≤1000) :
  Con Tryz.prog 149 [.d (ex (.int .i64 ((2:Nat):Int))),.d (ex (.int .i64 (e:Nat))),.ptr 0 0,.ptr 1 0] (tabH B l) [2,3,4,5,6,7,8,9] (fun r hp'=>∃ n',n'≤E∧r = .d (polD (pw (B 2) (e - 1)))∧hp' = tabHt B (upF l 2 n') [.dead]):=by
 have hlen0:=powL_length (B 2) (l 2)
 refine Con.intro10 Tryz.func149 rfl (callFunc_run Tryz.func149 (by kernel_rfl) (by kernel_rfl)) rfl fun s0 pv0 pv1 pv2 pv3 pv4 pv5 pv6 pv7 pv8 pv9=>?_
 rw [Tryz.ntmps149]
 by_cases hz:l 2 = 0
 ·apply AWp.seq; apply AWp.region; refine Wa ?_; apply AWl.nil; apply Yn; apply AWp.seq; apply AWp.seq; apply AWp.region; refine Wm ?_; refine Wq Qz.ixP ?_; refine Wq Qz.loadP1 ?_; refine Wq Qz.lenN ?_; refine Wq Qz.cmpT ?_; apply AWl.nil; apply Yn; refine Ct ?_; apply AWp.region; refine Wm ?_; refine Wm ?_; refine Wq Qz.ixP ?_; (refine AWs.q rfl rfl ?_; refine ⟨_, Qs.ldX1 (ao rfl) rfl (tab_of rfl) rfl (CellAt.p8 (by omega)), ?_⟩); (refine AWs.seat1 4 (tab_of rfl) (tab_of rfl) rfl rfl (ao rfl) (by first | exact One.ex_ rfl | exact One.sl | exact One.ep) rfl rfl rfl rfl (by repeat (first | exact DownR.nil | apply DownR.var | apply DownR.row | apply DownR.obj | apply DownR.dead | (apply DownR.pin; rfl) | (apply DownR.varA; rfl))) rfl ?_); refine Wq Qz.ixP ?_; refine AWs.stA1 (ao rfl) (ao rfl) rfl (tab_of rfl) (by first | exact One.own rfl | exact One.sl) rfl rfl ?_; apply AWl.nil; apply Yn; apply AWp.seq; apply AWp.block
  have hx:∀ k,k<e - 1→Abs Tryz.prog 18 [polD ((powL (B 2) (1+k)).getD ((powL (B 2) (1+k)).length - 1) default),polD (B 2)] (tupD [polD (pw (B 2) (1+k)),ex (.int .i64 0)]):=fun k hk=>by
   rw [powL_length,powL_get (B 2) (by omega)]
   obtain ⟨j,hj⟩:∃ j,1+k = j+1:=⟨1+k - 1,by omega⟩
   rw [hj]
   exact PMul_pb (hb j (by omega)) hP h0' h0 hd hn hN
  refine AWp.loop (fun mz σ=>∃ k,k≤e - 1∧mz = e - 1 - k∧σ = ⟨[(0,.d (ex (.int .i64 ((2:Nat):Int)))),(1,.d (ex (.int .i64 (e:Nat)))),(2,.ptr 0 0),(3,.ptr 1 0)],[.var 144 [.own 2,.own 3,.own 4,.own 5,.own 6,.own 7,.own 8,.own 9],.var 77 ((pol8 B).map .d),.row 23 1 (rowP (powL (B 0) (l 0))),.row 23 1 (rowP (powL (B 1) (l 1))),.row 23 1 (rowP (powL (B 2) (1+k))),.row 23 1 (rowP (powL (B 3) (l 3))),.row 23 1 (rowP (powL (B 4) (l 4))),.row 23 1 (rowP (powL (B 5) (l 5))),.row 23 1 (rowP (powL (B 6) (l 6))),.row 23 1 (rowP (powL (B 7) (l 7))),.pin [(pv0,.own 0),(pv1,.own 1)]]⟩) ?le ⟨0,by omega,rfl,rfl⟩ ?round
  case le=>exact AS.le_of (by refine Yd ?_;refine Yd ?_;refine Yp ?_;refine Yp ?_;exact FrLe.nil) (by refine HpLe.cons (OwLe.varB rfl) ?_;apply Yv;apply Yr;apply Yr;apply Yr;apply Yr;apply Yr;apply Yr;apply Yr;apply Yr;refine HpLe.cons (OwLe.pinB rfl) ?_;exact HpLe.nil)
  case round =>
   rintro mz _ ⟨k,hk,rfl,rfl⟩
   by_cases hlt:k<e - 1
   ·have hlen:=powL_length (B 2) (1+k)
    have hsn:=rowP_snoc (B 2) (1+k)
    apply AWp.seq;apply Y1;refine Wm ?_;refine Wq Qz.ixP ?_;refine Wq Qz.loadP1 ?_;refine Wq Qz.lenN ?_;refine Wm ?_;refine Wq Qz.cmpT ?_;apply Y0;refine Ct ?_;apply Ys;apply AWp.block;apply AWp.seq
    refine AWp.dr' (DrawOk.float (e:=16) (by kernel_rfl) (K4 (K4 (K4 (K4 (AddE.keep (AddE.add (AddE.keep AddE.nil))))))) (by kernel_rfl)) [[],[(27,0)],[(28,1)],[],[(30,3)],[(31,4)],[(32,5)],[(33,6)],[(29,2),(34,7)],[(35,8)],[],[(37,10)],[(38,11)],[(36,9),(39,12)],[(40,13)],[(26,14)],[(26,14)]] [[],[0],[0,1],[],[3],[3,4],[3,4,5],[3,4,5,6],[0,1,2,3,4,5,6,7],[0,1,2,3,4,5,6,7,8],[],[10],[10,11],[0,1,2,3,4,5,6,7,8,9,10,11,12],[0,1,2,3,4,5,6,7,8,9,10,11,12,13],[0,1,2,3,4,5,6,7,8,9,10,11,12,13,14],[0,1,2,3,4,5,6,7,8,9,10,11,12,13,14]] rfl (by kernel_rfl) (by kernel_rfl) (by kernel_rfl) ?_
    refine Xq Qz.move ?_;refine Xq Qz.ixP ?_;refine Xq Qz.loadP1 ?_;refine Xq Qz.move ?_;refine Xq Qz.ixP ?_;refine Xq Qz.loadP1 ?_;refine Xq Qz.lenN ?_;refine Xq Qz.pred ?_;refine Xq Qz.indexN ?_;refine Xq Qz.ldE1 ?_;refine Xq Qz.move ?_;refine Xq Qz.ixP ?_;(refine ⟨_,HStep.q rfl (Qs.ldX1 (ah rfl) rfl (tab_of rfl) rfl (CellAt.p8 (by omega))),?_⟩;refine ⟨_,rfl,?_⟩);refine Xq (Qz.call (hx k hlt)) ?_;refine Xq Qz.move ?_;refine Xq Qz.ext ?_;refine Xq Qz.ext ?_;refine ⟨_,rfl,?_⟩
    refine Wa ?_;refine Wa ?_;apply AWl.nil;apply OnlyN.mk';apply Yn;apply AWp.region;refine Wm ?_;refine Wm ?_;refine Wq Qz.ixP ?_;refine Wq Qz.loadP1 ?_;refine Wm ?_;(refine AWs.q rfl rfl ?_;(refine Bq.slice (tab_of rfl) (tab_of rfl) rfl rfl rfl rfl rfl ?_;(repeat ((first | refine ⟨_,PartOk.ag (ao rfl),?_⟩ | refine ⟨_,PartOk.one rfl (by first | exact One.ex_ rfl | exact One.sl | exact One.ep),?_⟩);refine ⟨_,rfl,?_⟩));refine ⟨_,rfl,?_⟩));(refine AWs.appA (ao rfl) rfl rfl (tab_of rfl) (tab_of rfl) rfl rfl (by simp [chunks_length];omega) (by simp [chunks_length];omega) rfl (by repeat (first | exact DownR.nil | apply DownR.var | apply DownR.row | apply DownR.obj | apply DownR.dead | (apply DownR.pin;rfl) | (apply DownR.varA;rfl))) rfl ?_);refine Wq Qz.ixP ?_;refine AWs.stA1 (ao rfl) (ao rfl) rfl (tab_of rfl) (by first | exact One.own rfl | exact One.sl) rfl rfl ?_;apply AWl.nil;apply ABlock.normal
    refine ALoop.next (e - 1 - (k+1)) (by omega) ⟨k+1,by omega,rfl,rfl⟩ ?_
    exact AS.le_of (by refine Yd ?_;refine Yd ?_;refine Yp ?_;refine Yp ?_;exact FrLe.nil) (by refine HpLe.cons (OwLe.varB rfl) ?_;apply Yv;apply Yr;apply Yr;refine HpLe.cons (OwLe.row hsn) ?_;apply Yr;apply Yr;apply Yr;apply Yr;apply Yr;refine HpLe.cons (OwLe.pinB rfl) ?_;exact HpLe.nil)
   ·obtain rfl : k = e - 1 := by omega
    have hlen:=powL_length (B 2) (1+(e - 1))
    apply AWp.seq;apply Y1;refine Wm ?_;refine Wq Qz.ixP ?_;refine Wq Qz.loadP1 ?_;refine Wq Qz.lenN ?_;refine Wm ?_;refine Wq Qz.cmpF ?_;apply Y0;refine Cf ?_;apply AWp.exit;apply AThen.exit;apply ALoop.exit;apply ABlock.hit;apply Yn;apply Y1;refine Wm ?_;refine Wq Qz.ixP ?_;refine Wq Qz.loadP1 ?_;refine Wm ?_;refine Wq Qz.pred ?_;refine Wq Qz.indexN ?_;refine Wq Qz.ldE1 ?_;refine Wa ?_;apply Y0;apply AWp.ret
    refine FinC.ret (RetsA.d (Rets.of1 (ResV.tmp rfl rfl) (D.le.of_eq (congrArg polD (powL_get (B 2) (by omega)))))) rfl ?_ rfl
    exact ⟨1+(e - 1),by omega,rfl,rfl⟩
 ·apply Y1;refine Wa ?_;apply Y0;apply AWp.seq;apply Y1;refine Wm ?_;refine Wq Qz.ixP ?_;refine Wq Qz.loadP1 ?_;refine Wq Qz.lenN ?_;refine Wq Qz.cmpF ?_;apply Y0;refine Cf ?_;apply Ys;apply AWp.seq;apply AWp.block
  have hx:∀ k,k<e - l 2→Abs Tryz.prog 18 [polD ((powL (B 2) (l 2+k)).getD ((powL (B 2) (l 2+k)).length - 1) default),polD (B 2)] (tupD [polD (pw (B 2) (l 2+k)),ex (.int .i64 0)]):=fun k hk=>by
   rw [powL_length,powL_get (B 2) (by omega)]
   obtain ⟨j,hj⟩:∃ j,l 2+k = j+1:=⟨l 2+k - 1,by omega⟩
   rw [hj]
   exact PMul_pb (hb j (by omega)) hP h0' h0 hd hn hN
  refine AWp.loop (fun mz σ=>∃ k,k≤e - l 2∧mz = e - l 2 - k∧σ = ⟨[(0,.d (ex (.int .i64 ((2:Nat):Int)))),(1,.d (ex (.int .i64 (e:Nat)))),(2,.ptr 0 0),(3,.ptr 1 0)],[.var 144 [.own 2,.own 3,.own 4,.own 5,.own 6,.own 7,.own 8,.own 9],.var 77 ((pol8 B).map .d),.row 23 1 (rowP (powL (B 0) (l 0))),.row 23 1 (rowP (powL (B 1) (l 1))),.row 23 1 (rowP (powL (B 2) (l 2+k))),.row 23 1 (rowP (powL (B 3) (l 3))),.row 23 1 (rowP (powL (B 4) (l 4))),.row 23 1 (rowP (powL (B 5) (l 5))),.row 23 1 (rowP (powL (B 6) (l 6))),.row 23 1 (rowP (powL (B 7) (l 7))),.pin [(pv0,.own 0),(pv1,.own 1)]]⟩) ?le ⟨0,by omega,rfl,rfl⟩ ?round
  case le=>exact AS.le_of (by refine Yd ?_;refine Yd ?_;refine Yp ?_;refine Yp ?_;exact FrLe.nil) (by refine HpLe.cons (OwLe.varB rfl) ?_;apply Yv;apply Yr;apply Yr;apply Yr;apply Yr;apply Yr;apply Yr;apply Yr;apply Yr;refine HpLe.cons (OwLe.pinB rfl) ?_;exact HpLe.nil)
  case round =>
   rintro mz _ ⟨k,hk,rfl,rfl⟩
   by_cases hlt:k<e - l 2
   ·have hlen:=powL_length (B 2) (l 2+k)
    have hsn:=rowP_snoc (B 2) (l 2+k)
    apply AWp.seq;apply Y1;refine Wm ?_;refine Wq Qz.ixP ?_;refine Wq Qz.loadP1 ?_;refine Wq Qz.lenN ?_;refine Wm ?_;refine Wq Qz.cmpT ?_;apply Y0;refine Ct ?_;apply Ys;apply AWp.block;apply AWp.seq
    refine AWp.dr' (DrawOk.float (e:=16) (by kernel_rfl) (K4 (K4 (K4 (K4 (AddE.keep (AddE.add (AddE.keep AddE.nil))))))) (by kernel_rfl)) [[],[(27,0)],[(28,1)],[],[(30,3)],[(31,4)],[(32,5)],[(33,6)],[(29,2),(34,7)],[(35,8)],[],[(37,10)],[(38,11)],[(36,9),(39,12)],[(40,13)],[(26,14)],[(26,14)]] [[],[0],[0,1],[],[3],[3,4],[3,4,5],[3,4,5,6],[0,1,2,3,4,5,6,7],[0,1,2,3,4,5,6,7,8],[],[10],[10,11],[0,1,2,3,4,5,6,7,8,9,10,11,12],[0,1,2,3,4,5,6,7,8,9,10,11,12,13],[0,1,2,3,4,5,6,7,8,9,10,11,12,13,14],[0,1,2,3,4,5,6,7,8,9,10,11,12,13,14]] rfl (by kernel_rfl) (by kernel_rfl) (by kernel_rfl) ?_
    refine Xq Qz.move ?_;refine Xq Qz.ixP ?_;refine Xq Qz.loadP1 ?_;refine Xq Qz.move ?_;refine Xq Qz.ixP ?_;refine Xq Qz.loadP1 ?_;refine Xq Qz.lenN ?_;refine Xq Qz.pred ?_;refine Xq Qz.indexN ?_;refine Xq Qz.ldE1 ?_;refine Xq Qz.move ?_;refine Xq Qz.ixP ?_;(refine ⟨_,HStep.q rfl (Qs.ldX1 (ah rfl) rfl (tab_of rfl) rfl (CellAt.p8 (by omega))),?_⟩;refine ⟨_,rfl,?_⟩);refine Xq (Qz.call (hx k hlt)) ?_;refine Xq Qz.move ?_;refine Xq Qz.ext ?_;refine Xq Qz.ext ?_;refine ⟨_,rfl,?_⟩
    refine Wa ?_;refine Wa ?_;apply AWl.nil;apply OnlyN.mk';apply Yn;apply AWp.region;refine Wm ?_;refine Wm ?_;refine Wq Qz.ixP ?_;refine Wq Qz.loadP1 ?_;refine Wm ?_;(refine AWs.q rfl rfl ?_;(refine Bq.slice (tab_of rfl) (tab_of rfl) rfl rfl rfl rfl rfl ?_;(repeat ((first | refine ⟨_,PartOk.ag (ao rfl),?_⟩ | refine ⟨_,PartOk.one rfl (by first | exact One.ex_ rfl | exact One.sl | exact One.ep),?_⟩);refine ⟨_,rfl,?_⟩));refine ⟨_,rfl,?_⟩));(refine AWs.appA (ao rfl) rfl rfl (tab_of rfl) (tab_of rfl) rfl rfl (by simp [chunks_length];omega) (by simp [chunks_length];omega) rfl (by repeat (first | exact DownR.nil | apply DownR.var | apply DownR.row | apply DownR.obj | apply DownR.dead | (apply DownR.pin;rfl) | (apply DownR.varA;rfl))) rfl ?_);refine Wq Qz.ixP ?_;refine AWs.stA1 (ao rfl) (ao rfl) rfl (tab_of rfl) (by first | exact One.own rfl | exact One.sl) rfl rfl ?_;apply AWl.nil;apply ABlock.normal
    refine ALoop.next (e - l 2 - (k+1)) (by omega) ⟨k+1,by omega,rfl,rfl⟩ ?_
    exact AS.le_of (by refine Yd ?_;refine Yd ?_;refine Yp ?_;refine Yp ?_;exact FrLe.nil) (by refine HpLe.cons (OwLe.varB rfl) ?_;apply Yv;apply Yr;apply Yr;refine HpLe.cons (OwLe.row hsn) ?_;apply Yr;apply Yr;apply Yr;apply Yr;apply Yr;refine HpLe.cons (OwLe.pinB rfl) ?_;exact HpLe.nil)
   ·obtain rfl : k = e - l 2 := by omega
    have hlen:=powL_length (B 2) (l 2+(e - l 2))
    apply AWp.seq;apply Y1;refine Wm ?_;refine Wq Qz.ixP ?_;refine Wq Qz.loadP1 ?_;refine Wq Qz.lenN ?_;refine Wm ?_;refine Wq Qz.cmpF ?_;apply Y0;refine Cf ?_;apply AWp.exit;apply AThen.exit;apply ALoop.exit;apply ABlock.hit;apply Yn;apply Y1;refine Wm ?_;refine Wq Qz.ixP ?_;refine Wq Qz.loadP1 ?_;refine Wm ?_;refine Wq Qz.pred ?_;refine Wq Qz.indexN ?_;refine Wq Qz.ldE1 ?_;refine Wa ?_;apply Y0;apply AWp.ret
    refine FinC.ret (RetsA.d (Rets.of1 (ResV.tmp rfl rfl) (D.le.of_eq (congrArg polD (powL_get (B 2) (by omega)))))) rfl ?_ rfl
    exact ⟨l 2+(e - l 2),by omega,rfl,rfl⟩
theorem powers1_3 (B : Nat→List Tm) (l:Nat→Nat) (e E n N L M:Nat) (d0 d:Int) (hP:PB (B 3) n N d0) (hb:∀ k,k<E→PB (pw (B 3) k) L M d) (h0:0≤d0) (h0':0≤d) (hd:d+d0≤65535) (hn:L*n≤100000) (hN:M+N+1≤10000000) (he0:0<e) (he:e≤E) (hl:l 3≤E) (hE:E≤1000) :
  Con Tryz.prog 149 [.d (ex (.int .i64 ((3:Nat):Int))),.d (ex (.int .i64 (e:Nat))),.ptr 0 0,.ptr 1 0] (tabH B l) [2,3,4,5,6,7,8,9] (fun r hp'=>∃ n',n'≤E∧r = .d (polD (pw (B 3) (e - 1)))∧hp' = tabHt B (upF l 3 n') [.dead]):=by
 have hlen0:=powL_length (B 3) (l 3)
 refine Con.intro10 Tryz.func149 rfl (callFunc_run Tryz.func149 (by kernel_rfl) (by kernel_rfl)) rfl fun s0 pv0 pv1 pv2 pv3 pv4 pv5 pv6 pv7 pv8 pv9=>?_
 rw [Tryz.ntmps149]
 by_cases hz:l 3 = 0
 ·apply AWp.seq; apply AWp.region; refine Wa ?_; apply AWl.nil; apply Yn; apply AWp.seq; apply AWp.seq; apply AWp.region; refine Wm ?_; refine Wq Qz.ixP ?_; refine Wq Qz.loadP1 ?_; refine Wq Qz.lenN ?_; refine Wq Qz.cmpT ?_; apply AWl.nil; apply Yn; refine Ct ?_; apply AWp.region; refine Wm ?_; refine Wm ?_; refine Wq Qz.ixP ?_; (refine AWs.q rfl rfl ?_; refine ⟨_, Qs.ldX1 (ao rfl) rfl (tab_of rfl) rfl (CellAt.p8 (by omega)), ?_⟩); (refine AWs.seat1 5 (tab_of rfl) (tab_of rfl) rfl rfl (ao rfl) (by first | exact One.ex_ rfl | exact One.sl | exact One.ep) rfl rfl rfl rfl (by repeat (first | exact DownR.nil | apply DownR.var | apply DownR.row | apply DownR.obj | apply DownR.dead | (apply DownR.pin; rfl) | (apply DownR.varA; rfl))) rfl ?_); refine Wq Qz.ixP ?_; refine AWs.stA1 (ao rfl) (ao rfl) rfl (tab_of rfl) (by first | exact One.own rfl | exact One.sl) rfl rfl ?_; apply AWl.nil; apply Yn; apply AWp.seq; apply AWp.block
  have hx:∀ k,k<e - 1→Abs Tryz.prog 18 [polD ((powL (B 3) (1+k)).getD ((powL (B 3) (1+k)).length - 1) default),polD (B 3)] (tupD [polD (pw (B 3) (1+k)),ex (.int .i64 0)]):=fun k hk=>by
   rw [powL_length,powL_get (B 3) (by omega)]
   obtain ⟨j,hj⟩:∃ j,1+k = j+1:=⟨1+k - 1,by omega⟩
   rw [hj]
   exact PMul_pb (hb j (by omega)) hP h0' h0 hd hn hN
  refine AWp.loop (fun mz σ=>∃ k,k≤e - 1∧mz = e - 1 - k∧σ = ⟨[(0,.d (ex (.int .i64 ((3:Nat):Int)))),(1,.d (ex (.int .i64 (e:Nat)))),(2,.ptr 0 0),(3,.ptr 1 0)],[.var 144 [.own 2,.own 3,.own 4,.own 5,.own 6,.own 7,.own 8,.own 9],.var 77 ((pol8 B).map .d),.row 23 1 (rowP (powL (B 0) (l 0))),.row 23 1 (rowP (powL (B 1) (l 1))),.row 23 1 (rowP (powL (B 2) (l 2))),.row 23 1 (rowP (powL (B 3) (1+k))),.row 23 1 (rowP (powL (B 4) (l 4))),.row 23 1 (rowP (powL (B 5) (l 5))),.row 23 1 (rowP (powL (B 6) (l 6))),.row 23 1 (rowP (powL (B 7) (l 7))),.pin [(pv0,.own 0),(pv1,.own 1)]]⟩) ?le ⟨0,by omega,rfl,rfl⟩ ?round
  case le=>exact AS.le_of (by refine Yd ?_;refine Yd ?_;refine Yp ?_;refine Yp ?_;exact FrLe.nil) (by refine HpLe.cons (OwLe.varB rfl) ?_;apply Yv;apply Yr;apply Yr;apply Yr;apply Yr;apply Yr;apply Yr;apply Yr;apply Yr;refine HpLe.cons (OwLe.pinB rfl) ?_;exact HpLe.nil)
  case round =>
   rintro mz _ ⟨k,hk,rfl,rfl⟩
   by_cases hlt:k<e - 1
   ·have hlen:=powL_length (B 3) (1+k)
    have hsn:=rowP_snoc (B 3) (1+k)
    apply AWp.seq;apply Y1;refine Wm ?_;refine Wq Qz.ixP ?_;refine Wq Qz.loadP1 ?_;refine Wq Qz.lenN ?_;refine Wm ?_;refine Wq Qz.cmpT ?_;apply Y0;refine Ct ?_;apply Ys;apply AWp.block;apply AWp.seq
    refine AWp.dr' (DrawOk.float (e:=16) (by kernel_rfl) (K4 (K4 (K4 (K4 (AddE.keep (AddE.add (AddE.keep AddE.nil))))))) (by kernel_rfl)) [[],[(27,0)],[(28,1)],[],[(30,3)],[(31,4)],[(32,5)],[(33,6)],[(29,2),(34,7)],[(35,8)],[],[(37,10)],[(38,11)],[(36,9),(39,12)],[(40,13)],[(26,14)],[(26,14)]] [[],[0],[0,1],[],[3],[3,4],[3,4,5],[3,4,5,6],[0,1,2,3,4,5,6,7],[0,1,2,3,4,5,6,7,8],[],[10],[10,11],[0,1,2,3,4,5,6,7,8,9,10,11,12],[0,1,2,3,4,5,6,7,8,9,10,11,12,13],[0,1,2,3,4,5,6,7,8,9,10,11,12,13,14],[0,1,2,3,4,5,6,7,8,9,10,11,12,13,14]] rfl (by kernel_rfl) (by kernel_rfl) (by kernel_rfl) ?_
    refine Xq Qz.move ?_;refine Xq Qz.ixP ?_;refine Xq Qz.loadP1 ?_;refine Xq Qz.move ?_;refine Xq Qz.ixP ?_;refine Xq Qz.loadP1 ?_;refine Xq Qz.lenN ?_;refine Xq Qz.pred ?_;refine Xq Qz.indexN ?_;refine Xq Qz.ldE1 ?_;refine Xq Qz.move ?_;refine Xq Qz.ixP ?_;(refine ⟨_,HStep.q rfl (Qs.ldX1 (ah rfl) rfl (tab_of rfl) rfl (CellAt.p8 (by omega))),?_⟩;refine ⟨_,rfl,?_⟩);refine Xq (Qz.call (hx k hlt)) ?_;refine Xq Qz.move ?_;refine Xq Qz.ext ?_;refine Xq Qz.ext ?_;refine ⟨_,rfl,?_⟩
    refine Wa ?_;refine Wa ?_;apply AWl.nil;apply OnlyN.mk';apply Yn;apply AWp.region;refine Wm ?_;refine Wm ?_;refine Wq Qz.ixP ?_;refine Wq Qz.loadP1 ?_;refine Wm ?_;(refine AWs.q rfl rfl ?_;(refine Bq.slice (tab_of rfl) (tab_of rfl) rfl rfl rfl rfl rfl ?_;(repeat ((first | refine ⟨_,PartOk.ag (ao rfl),?_⟩ | refine ⟨_,PartOk.one rfl (by first | exact One.ex_ rfl | exact One.sl | exact One.ep),?_⟩);refine ⟨_,rfl,?_⟩));refine ⟨_,rfl,?_⟩));(refine AWs.appA (ao rfl) rfl rfl (tab_of rfl) (tab_of rfl) rfl rfl (by simp [chunks_length];omega) (by simp [chunks_length];omega) rfl (by repeat (first | exact DownR.nil | apply DownR.var | apply DownR.row | apply DownR.obj | apply DownR.dead | (apply DownR.pin;rfl) | (apply DownR.varA;rfl))) rfl ?_);refine Wq Qz.ixP ?_;refine AWs.stA1 (ao rfl) (ao rfl) rfl (tab_of rfl) (by first | exact One.own rfl | exact One.sl) rfl rfl ?_;apply AWl.nil;apply ABlock.normal
    refine ALoop.next (e - 1 - (k+1)) (by omega) ⟨k+1,by omega,rfl,rfl⟩ ?_
    exact AS.le_of (by refine Yd ?_;refine Yd ?_;refine Yp ?_;refine Yp ?_;exact FrLe.nil) (by refine HpLe.cons (OwLe.varB rfl) ?_;apply Yv;apply Yr;apply Yr;apply Yr;refine HpLe.cons (OwLe.row hsn) ?_;apply Yr;apply Yr;apply Yr;apply Yr;refine HpLe.cons (OwLe.pinB rfl) ?_;exact HpLe.nil)
   ·obtain rfl : k = e - 1 := by omega
    have hlen:=powL_length (B 3) (1+(e - 1))
    apply AWp.seq;apply Y1;refine Wm ?_;refine Wq Qz.ixP ?_;refine Wq Qz.loadP1 ?_;refine Wq Qz.lenN ?_;refine Wm ?_;refine Wq Qz.cmpF ?_;apply Y0;refine Cf ?_;apply AWp.exit;apply AThen.exit;apply ALoop.exit;apply ABlock.hit;apply Yn;apply Y1;refine Wm ?_;refine Wq Qz.ixP ?_;refine Wq Qz.loadP1 ?_;refine Wm ?_;refine Wq Qz.pred ?_;refine Wq Qz.indexN ?_;refine Wq Qz.ldE1 ?_;refine Wa ?_;apply Y0;apply AWp.ret
    refine FinC.ret (RetsA.d (Rets.of1 (ResV.tmp rfl rfl) (D.le.of_eq (congrArg polD (powL_get (B 3) (by omega)))))) rfl ?_ rfl
    exact ⟨1+(e - 1),by omega,rfl,rfl⟩
 ·apply Y1;refine Wa ?_;apply Y0;apply AWp.seq;apply Y1;refine Wm ?_;refine Wq Qz.ixP ?_;refine Wq Qz.loadP1 ?_;refine Wq Qz.lenN ?_;refine Wq Qz.cmpF ?_;apply Y0;refine Cf ?_;apply Ys;apply AWp.seq;apply AWp.block
  have hx:∀ k,k<e - l 3→Abs Tryz.prog 18 [polD ((powL (B 3) (l 3+k)).getD ((powL (B 3) (l 3+k)).length - 1) default),polD (B 3)] (tupD [polD (pw (B 3) (l 3+k)),ex (.int .i64 0)]):=fun k hk=>by
   rw [powL_length,powL_get (B 3) (by omega)]
   obtain ⟨j,hj⟩:∃ j,l 3+k = j+1:=⟨l 3+k - 1,by omega⟩
   rw [hj]
   exact PMul_pb (hb j (by omega)) hP h0' h0 hd hn hN
  refine AWp.loop (fun mz σ=>∃ k,k≤e - l 3∧mz = e - l 3 - k∧σ = ⟨[(0,.d (ex (.int .i64 ((3:Nat):Int)))),(1,.d (ex (.int .i64 (e:Nat)))),(2,.ptr 0 0),(3,.ptr 1 0)],[.var 144 [.own 2,.own 3,.own 4,.own 5,.own 6,.own 7,.own 8,.own 9],.var 77 ((pol8 B).map .d),.row 23 1 (rowP (powL (B 0) (l 0))),.row 23 1 (rowP (powL (B 1) (l 1))),.row 23 1 (rowP (powL (B 2) (l 2))),.row 23 1 (rowP (powL (B 3) (l 3+k))),.row 23 1 (rowP (powL (B 4) (l 4))),.row 23 1 (rowP (powL (B 5) (l 5))),.row 23 1 (rowP (powL (B 6) (l 6))),.row 23 1 (rowP (powL (B 7) (l 7))),.pin [(pv0,.own 0),(pv1,.own 1)]]⟩) ?le ⟨0,by omega,rfl,rfl⟩ ?round
  case le=>exact AS.le_of (by refine Yd ?_;refine Yd ?_;refine Yp ?_;refine Yp ?_;exact FrLe.nil) (by refine HpLe.cons (OwLe.varB rfl) ?_;apply Yv;apply Yr;apply Yr;apply Yr;apply Yr;apply Yr;apply Yr;apply Yr;apply Yr;refine HpLe.cons (OwLe.pinB rfl) ?_;exact HpLe.nil)
  case round =>
   rintro mz _ ⟨k,hk,rfl,rfl⟩
   by_cases hlt:k<e - l 3
   ·have hlen:=powL_length (B 3) (l 3+k)
    have hsn:=rowP_snoc (B 3) (l 3+k)
    apply AWp.seq;apply Y1;refine Wm ?_;refine Wq Qz.ixP ?_;refine Wq Qz.loadP1 ?_;refine Wq Qz.lenN ?_;refine Wm ?_;refine Wq Qz.cmpT ?_;apply Y0;refine Ct ?_;apply Ys;apply AWp.block;apply AWp.seq
    refine AWp.dr' (DrawOk.float (e:=16) (by kernel_rfl) (K4 (K4 (K4 (K4 (AddE.keep (AddE.add (AddE.keep AddE.nil))))))) (by kernel_rfl)) [[],[(27,0)],[(28,1)],[],[(30,3)],[(31,4)],[(32,5)],[(33,6)],[(29,2),(34,7)],[(35,8)],[],[(37,10)],[(38,11)],[(36,9),(39,12)],[(40,13)],[(26,14)],[(26,14)]] [[],[0],[0,1],[],[3],[3,4],[3,4,5],[3,4,5,6],[0,1,2,3,4,5,6,7],[0,1,2,3,4,5,6,7,8],[],[10],[10,11],[0,1,2,3,4,5,6,7,8,9,10,11,12],[0,1,2,3,4,5,6,7,8,9,10,11,12,13],[0,1,2,3,4,5,6,7,8,9,10,11,12,13,14],[0,1,2,3,4,5,6,7,8,9,10,11,12,13,14]] rfl (by kernel_rfl) (by kernel_rfl) (by kernel_rfl) ?_
    refine Xq Qz.move ?_;refine Xq Qz.ixP ?_;refine Xq Qz.loadP1 ?_;refine Xq Qz.move ?_;refine Xq Qz.ixP ?_;refine Xq Qz.loadP1 ?_;refine Xq Qz.lenN ?_;refine Xq Qz.pred ?_;refine Xq Qz.indexN ?_;refine Xq Qz.ldE1 ?_;refine Xq Qz.move ?_;refine Xq Qz.ixP ?_;(refine ⟨_,HStep.q rfl (Qs.ldX1 (ah rfl) rfl (tab_of rfl) rfl (CellAt.p8 (by omega))),?_⟩;refine ⟨_,rfl,?_⟩);refine Xq (Qz.call (hx k hlt)) ?_;refine Xq Qz.move ?_;refine Xq Qz.ext ?_;refine Xq Qz.ext ?_;refine ⟨_,rfl,?_⟩
    refine Wa ?_;refine Wa ?_;apply AWl.nil;apply OnlyN.mk';apply Yn;apply AWp.region;refine Wm ?_;refine Wm ?_;refine Wq Qz.ixP ?_;refine Wq Qz.loadP1 ?_;refine Wm ?_;(refine AWs.q rfl rfl ?_;(refine Bq.slice (tab_of rfl) (tab_of rfl) rfl rfl rfl rfl rfl ?_;(repeat ((first | refine ⟨_,PartOk.ag (ao rfl),?_⟩ | refine ⟨_,PartOk.one rfl (by first | exact One.ex_ rfl | exact One.sl | exact One.ep),?_⟩);refine ⟨_,rfl,?_⟩));refine ⟨_,rfl,?_⟩));(refine AWs.appA (ao rfl) rfl rfl (tab_of rfl) (tab_of rfl) rfl rfl (by simp [chunks_length];omega) (by simp [chunks_length];omega) rfl (by repeat (first | exact DownR.nil | apply DownR.var | apply DownR.row | apply DownR.obj | apply DownR.dead | (apply DownR.pin;rfl) | (apply DownR.varA;rfl))) rfl ?_);refine Wq Qz.ixP ?_;refine AWs.stA1 (ao rfl) (ao rfl) rfl (tab_of rfl) (by first | exact One.own rfl | exact One.sl) rfl rfl ?_;apply AWl.nil;apply ABlock.normal
    refine ALoop.next (e - l 3 - (k+1)) (by omega) ⟨k+1,by omega,rfl,rfl⟩ ?_
    exact AS.le_of (by refine Yd ?_;refine Yd ?_;refine Yp ?_;refine Yp ?_;exact FrLe.nil) (by refine HpLe.cons (OwLe.varB rfl) ?_;apply Yv;apply Yr;apply Yr;apply Yr;refine HpLe.cons (OwLe.row hsn) ?_;apply Yr;apply Yr;apply Yr;apply Yr;refine HpLe.cons (OwLe.pinB rfl) ?_;exact HpLe.nil)
   ·obtain rfl : k = e - l 3 := by omega
    have hlen:=powL_length (B 3) (l 3+(e - l 3))
    apply AWp.seq;apply Y1;refine Wm ?_;refine Wq Qz.ixP ?_;refine Wq Qz.loadP1 ?_;refine Wq Qz.lenN ?_;refine Wm ?_;refine Wq Qz.cmpF ?_;apply Y0;refine Cf ?_;apply AWp.exit;apply AThen.exit;apply ALoop.exit;apply ABlock.hit;apply Yn;apply Y1;refine Wm ?_;refine Wq Qz.ixP ?_;refine Wq Qz.loadP1 ?_;refine Wm ?_;refine Wq Qz.pred ?_;refine Wq Qz.indexN ?_;refine Wq Qz.ldE1 ?_;refine Wa ?_;apply Y0;apply AWp.ret
    refine FinC.ret (RetsA.d (Rets.of1 (ResV.tmp rfl rfl) (D.le.of_eq (congrArg polD (powL_get (B 3) (by omega)))))) rfl ?_ rfl
    exact ⟨l 3+(e - l 3),by omega,rfl,rfl⟩
def pwL (P : List Tm):Nat→List Tm
 | 0=>[⟨1,fun _=>0⟩]
 | n+1=>mulL (pwL P n) P
def mp (B : Nat→List Tm) (m:Nat→Int):Nat→List Tm
 | 0=>[⟨1,fun _=>0⟩]
 | i+1=>mulL (mp B m i) (pwL (B i) (m i).toNat)
theorem mulL_one (P : List Tm):Sim (mulL P [⟨1,fun _=>0⟩]) P:=fun f hf=>by
 rw [dot_mulL]
 refine dot_congr fun t _=>?_
 have e:add8 t.m (fun _=>0) = t.m:=by funext i;simp [add8]
 simp only [dot,e]
 grind
theorem one_mulL (P : List Tm):Sim (mulL [⟨1,fun _=>0⟩] P) P:=(mulL_comm _ _).trans (mulL_one P)
theorem pwL_add (P : List Tm) (m:Nat):∀ n,Sim (pwL P (m+n)) (mulL (pwL P m) (pwL P n))
 | 0=>(mulL_one _).symm
 | n+1=>((pwL_add P m n).mul (Sim.refl P)).trans (mulL_assoc _ _ _)
theorem pw_sim (P : List Tm):∀ k,Sim (pw P k) (pwL P (k+1))
 | 0=>(one_mulL P).symm
 | k+1=>(pmul_sim _ _).trans ((pw_sim P k).mul (Sim.refl P))
theorem mp_eqv (B : Nat→List Tm) {a b:Nat→Int} (h:Eqv a b):∀ i,i≤8→mp B a i = mp B b i
 | 0,_=>rfl
 | i+1,hi=>by simp only [mp];rw [mp_eqv B h i (by omega),h i (by omega)]
theorem mulL_scl (c : Rat) (A P:List Tm):Sim (mulL (scl c A) P) (scl c (mulL A P)):=fun f _=>by
 rw [dot_mulL,dot_scl,dot_scl,dot_mulL]
theorem scl_sim {c : Rat} {P Q:List Tm} (h:Sim P Q):Sim (scl c P) (scl c Q):=fun f hf=>by rw [dot_scl,dot_scl,h f hf]
def trmL (c : Rat) (B:Nat→List Tm) (m:Nat→Int):Nat→List Tm
 | 0=>constL c
 | i+1=>if 0<m i then pmul (trmL c B m i) (pw (B i) ((m i).toNat - 1)) else trmL c B m i
theorem constL_scl (c : Rat):Sim (constL c) (scl c [⟨1,fun _=>0⟩]):=fun f _=>by
 unfold constL
 split
 ·rename_i h;rw [h];simp [dot,scl];grind
 ·simp [dot,scl]
theorem trmL_sim (c : Rat) (B:Nat→List Tm) (m:Nat→Int):∀ i,Sim (trmL c B m i) (scl c (mp B m i))
 | 0=>constL_scl c
 | i+1=>by
  simp only [trmL,mp]
  split
  ·rename_i h
   obtain ⟨e,he⟩:∃ e,(m i).toNat = e+1:=⟨(m i).toNat - 1,by omega⟩
   rw [he]
   exact (pmul_sim _ _).trans (((trmL_sim c B m i).mul (pw_sim (B i) e)).trans (mulL_scl _ _ _))
  ·rename_i h
   have he:(m i).toNat = 0:=by omega
   rw [he]
   exact (trmL_sim c B m i).trans (scl_sim (mulL_one _).symm)
theorem trmL_zero (c : Rat) {B:Nat→List Tm} {m:Nat→Int} {z:Nat} (hz:z<8) (hm:0<m z) (hB:B z = []):Sim (trmL c B m 8) []:=fun f hf=>by
 have key:∀ i,z<i→mp B m i = []:=by
  intro i
  induction i with
  | zero=>intro h;omega
  | succ i ih =>
   intro h
   by_cases e:z = i
   ·subst e
    obtain ⟨j,hj⟩:∃ j,(m z).toNat = j+1:=⟨(m z).toNat - 1,by omega⟩
    simp only [mp,hj,pwL,hB,mulL_nil_right]
   ·simp only [mp,ih (by omega),mulL,List.flatMap_nil]
 rw [trmL_sim c B m 8 f hf,dot_scl,key 8 hz]
 simp [dot]
def substL (B : Nat→List Tm) (P:List Tm):List Tm:=P.flatMap fun t=>trmL t.c B t.m 8
theorem substL_append (B : Nat→List Tm) (P Q:List Tm):substL B (P ++ Q) = substL B P ++ substL B Q:=by simp [substL]
def varB (p : Nat→Nat) (i:Nat):List Tm:=[⟨1,unitE (p i)⟩]
theorem PB.mulS {P Q:List Tm} {n N n' N':Nat} {d d':Int} (h:PB P n N d) (k:PB Q n' N' d') (h0:0≤d) (h0':0≤d'):PB (pmul P Q) (n'*n) (n'*(N'+N+1)) (d'+d) :=
 (k.mul h h0' h0).same (canon_unique (k.mul h h0' h0).can (h.mul k h0 h0').can (pmul_comm Q P))
def sN (m : Nat→Int):Nat→Nat
 | 0=>0
 | i+1=>sN m i+(m i).toNat
theorem sN_mono {m : Nat→Int}:∀ {i j:Nat},i≤j→sN m i≤sN m j
  | i, 0, h => by have : i = 0 := by omega
                  subst this;exact Nat.le_refl _
  | i,j+1,h=>by
    by_cases e:i = j+1
    · subst e;exact Nat.le_refl _
    · have := sN_mono (m := m) (i := i) (j := j) (by omega)
      simp only [sN]
      omega
structure SubB (B : Nat→List Tm) (t w:Nat) (d:Int) (K D:Nat) (U M:Nat→Nat):Prop where
 hB:∀ i,i<8→PB (B i) t w d
 d0:0≤d
 t0:0<t
 dD:(D:Int)*d≤65535
 tD:t ^ D≤100000
 U0:K≤U 0
 M1:w≤M 1
 hM:∀ e,e<D→0<e→t*(w+M e+1)≤M (e+1)
 hU:∀ a,a≤D→∀ e,e≤D→0<e→a+e≤D→t ^ e*(M e+U a+1)≤U (a+e)
 W:∀ a,a≤D→∀ e,e≤D→0<e→a+e≤D→U a+M e+1≤10000000
 Wm:∀ e,e<D→0<e→M e+w+1≤10000000
section
variable {B : Nat→List Tm} {t w:Nat} {d:Int} {K D:Nat} {U M:Nat→Nat} (h:SubB B t w d K D U M)
include h
theorem SubB.dN {a : Nat} (ha:a≤D):(a:Int)*d≤65535:=Int.le_trans (Int.mul_le_mul_of_nonneg_right (by omega) h.d0) h.dD
theorem SubB.d1 (a : Nat):0≤(a:Int)*d:=Int.mul_nonneg (by omega) h.d0
theorem SubB.tN {a : Nat} (ha:a≤D):t ^ a≤100000:=Nat.le_trans (Nat.pow_le_pow_right h.t0 ha) h.tD
theorem SubB.pw {i : Nat} (hi:i<8):∀ k,k<D→PB (pw (B i) k) (t ^ (k+1)) (M (k+1)) (((k+1:Nat):Int)*d)
 | 0,_=>(h.hB i hi).mono (by simp) h.M1 (by simp)
 | k+1,hk=>by
  have h1:=SubB.pw hi k (by omega)
  refine (h1.mulS (h.hB i hi) (h.d1 _) h.d0).mono (by rw [Nat.pow_succ t (k+1),Nat.mul_comm];exact Nat.le_refl _) (h.hM (k+1) hk (by omega)) ?_
  rw [show ((k+1+1:Nat):Int) = ((k+1:Nat):Int)+1 by omega,Int.add_mul]
  omega
theorem SubB.trm {c : Rat} (hc:RSz c K) {m:Nat→Int}:∀ i,i≤8→sN m i≤D→PB (trmL c B m i) (t ^ sN m i) (U (sN m i)) ((sN m i:Int)*d)
 | 0,_,_=>(constL_pb hc (d:=0) (by omega)).mono (by simp [sN]) h.U0 (by simp [sN])
 | i+1,hi,hs=>by
  have hs':sN m i+(m i).toNat≤D:=hs
  have h1:=SubB.trm hc (m:=m) i (by omega) (by omega)
  simp only [trmL]
  split
  ·rename_i hm
   obtain ⟨e,he⟩:∃ e,(m i).toNat = e+1:=⟨(m i).toNat - 1,by omega⟩
   have h2:=h.pw (i:=i) (by omega) e (by omega)
   have h3:=h.hU (sN m i) (by omega) (e+1) (by omega) (by omega) (by omega)
   have e1:sN m (i+1) = sN m i+(e+1):=by simp only [sN,he]
   rw [e1,he]
   refine (h1.mulS h2 (h.d1 _) (h.d1 _)).mono ?_ h3 ?_
   ·exact Nat.le_of_eq (by rw [Nat.pow_add t (sN m i) (e+1),Nat.mul_comm])
   ·rw [show ((sN m i + (e + 1) : Nat) : Int) = ((e + 1 : Nat) : Int) + (sN m i : Int) by omega, Int.add_mul]
    exact Int.le_refl _
  ·rename_i hm
   have e1:sN m (i+1) = sN m i:=by simp only [sN];omega
   rw [e1]
   exact h1
end
theorem sumTo_sN {m : Nat→Int} (hm:∀ i,i<8→0≤m i):∀ i,i≤8→sumTo m i = sN m i
 | 0,_=>rfl
 | i+1,hi=>by
  have h1:=hm i (by omega)
  have h2:=sumTo_sN hm i (by omega)
  show sumTo m i+m i = ((sN m i+(m i).toNat:Nat):Int)
  omega
theorem powers1_con (B : Nat→List Tm) (l:Nat→Nat) (i:Nat) (hi:i<4) (z:Int) (e E n N L M:Nat) (d0 d:Int) (hz:z = (e:Int)) (hP:PB (B i) n N d0) (hb:∀ k,k<E→PB (pw (B i) k) L M d) (h0:0≤d0) (h0':0≤d) (hd:d+d0≤65535) (hn:L*n≤100000) (hN:M+N+1≤10000000) (he0:0<e) (he:e≤E) (hl:l i≤E) (hE:E≤1000) :
  Con Tryz.prog 149 [.d (ex (.int .i64 (i:Nat))),.d (ex (.int .i64 z)),.ptr 0 0,.ptr 1 0] (tabH B l) [2,3,4,5,6,7,8,9] (fun r hp'=>∃ n',n'≤E∧r = .d (polD (pw (B i) (z.toNat - 1)))∧hp' = tabHt B (upF l i n') [.dead]):=by
 subst hz
 rw [show ((e:Int)).toNat = e by omega]
 match i,hi with
 | 0,_=>exact powers1_0 B l e E n N L M d0 d hP hb h0 h0' hd hn hN he0 he hl hE
 | 1,_=>exact powers1_1 B l e E n N L M d0 d hP hb h0 h0' hd hn hN he0 he hl hE
 | 2,_=>exact powers1_2 B l e E n N L M d0 d hP hb h0 h0' hd hn hN he0 he hl hE
 | 3,_=>exact powers1_3 B l e E n N L M d0 d hP hb h0 h0' hd hn hN he0 he hl hE
def VanB (B : Nat→List Tm) (m:Nat→Int):Prop:=∃ i,i<8∧0<m i∧B i = []
theorem van_least {B : Nat→List Tm} {m:Nat→Int} (h:VanB B m):∃ z,z<8∧0<m z∧B z = []∧∀ i,i<z→0<m i→0<(B i).length:=by
 obtain ⟨i,h1,h2,h3⟩:=h
 induction i using Nat.strongRecOn with
 | _ i ih =>
  by_cases hx:∃ j,j<i∧0<m j∧B j = []
  ·obtain ⟨j,h4,h5,h6⟩:=hx
   exact ih j h4 (by omega) h5 h6
  ·refine ⟨i,h1,h2,h3,fun j hj hm=>?_⟩
   rcases Nat.eq_zero_or_pos (B j).length with h | h
   ·exact absurd ⟨j,hj,hm,List.eq_nil_of_length_eq_zero h⟩ hx
   ·exact h
theorem van_no {B : Nat→List Tm} {m:Nat→Int} (h:¬ VanB B m):∀ i,i<8→0<m i→0<(B i).length:=fun i hi hm=>by
 rcases Nat.eq_zero_or_pos (B i).length with h1 | h1
 ·exact absurd ⟨i,hi,hm,List.eq_nil_of_length_eq_zero h1⟩ h
 ·exact h1
theorem van_abs (m : Nat→Int) (B:Nat→List Tm) (hB:∀ i,i<8→(B i).length≤100000):∃ b:Bool,(b = true↔VanB B m)∧Abs Tryz.prog 111 [agD (monC m),agD (pol8 B)] (ex (.bool b))∧Abs Tryz.prog 114 [agD (monC m),agD (pol8 B)] (ex (.bool b)):=by
 by_cases h:VanB B m
 ·obtain ⟨z,h1,h2,h3,h4⟩:=van_least h
  exact ⟨true,by simp [h],vanT_abs m B z h1 hB h4 h2 h3,RvanT_abs m B z h1 hB h4 h2 h3⟩
 ·exact ⟨false,by simp [h],vanF_abs m B hB (van_no h),RvanF_abs m B hB (van_no h)⟩
def subTo (B : Nat→List Tm) (P:List Tm) (k:Nat):List Tm:=substL B (P.take k)
theorem subTo_succ (B : Nat→List Tm) {P:List Tm} {k:Nat} (h:k<P.length):subTo B P (k+1) = subTo B P k ++ trmL (tAt P k).c B (tAt P k).m 8:=by
 have:P.take (k+1) = P.take k ++ [tAt P k]:=by
  rw [List.take_succ_eq_append_getElem h]
  simp [tAt,List.getD_eq_getElem?_getD,List.getElem?_eq_getElem h]
 unfold subTo
 rw [this,substL_append]
 simp [substL]
theorem Colld.more {E G:List Tm} {n n' D:Nat} {hi:Int} (h:Colld E G n D hi) (hn:n≤n'):Colld E G n' D hi:=⟨h.sim,Nat.le_trans h.len hn,h.sz.mono (Nat.mul_le_mul_right D hn),h.in_⟩
theorem Colld.simR {E G G':List Tm} {n D:Nat} {hi:Int} (h:Colld E G n D hi) (hs:Sim G G'):Colld E G' n D hi:=⟨h.sim.trans hs,h.len,h.sz,h.in_⟩
def bnd8 (B : Nat→List Tm) (k:Nat):Nat→Nat→Int:=fun i=>if i<k then degV (B i) else fun _=>0
theorem bnd8_set (B : Nat→List Tm) (k:Nat):row8 (upF (bnd8 B k) k (degV (B k))) = row8 (bnd8 B (k+1)):=row8_rows fun i _=>by
 simp only [upF,bnd8]
 by_cases h1:i = k
 ·subst h1;rw [if_pos rfl,if_pos (by omega)]
 ·rw [if_neg h1]
  by_cases h2:i<k
  ·rw [if_pos h2,if_pos (by omega)]
  ·rw [if_neg h2,if_neg (by omega)]
def vanB (B : Nat→List Tm) (m:Nat→Int):Bool:=(List.range 8).any fun i=>decide (0<m i) && (B i).isEmpty
theorem vanB_iff {B : Nat→List Tm} {m:Nat→Int}:vanB B m = true↔VanB B m:=by
 simp [vanB,VanB,List.isEmpty_iff]
def rpw (R P:List Tm):Nat→List Tm
 | 0=>R
 | j+1=>pmul (rpw R P j) P
def rtL (c : Rat) (B:Nat→List Tm) (m:Nat→Int):Nat→List Tm
 | 0=>constL c
 | i+1=>rpw (rtL c B m i) (B i) (m i).toNat
theorem rpw_sim {R R':List Tm} (P:List Tm) (h:Sim R R'):∀ j,Sim (rpw R P j) (mulL R' (pwL P j))
 | 0=>h.trans (mulL_one _).symm
 | j+1=>(pmul_sim _ _).trans (((rpw_sim P h j).mul (Sim.refl P)).trans (mulL_assoc _ _ _))
theorem rtL_sim (c : Rat) (B:Nat→List Tm) (m:Nat→Int):∀ i,Sim (rtL c B m i) (scl c (mp B m i))
 | 0=>constL_scl c
 | i+1=>(rpw_sim (B i) (rtL_sim c B m i) _).trans (mulL_scl _ _ _)
section
variable {B : Nat→List Tm} {t w:Nat} {d:Int} {K D:Nat} {U M:Nat→Nat} (h:SubB B t w d K D U M)
include h
theorem SubB.rpw1 {R : List Tm} {a i:Nat} (hi:i<8) (hR:PB R (t ^ a) (U a) ((a:Int)*d)):∀ j,a+j≤D→PB (rpw R (B i) j) (t ^ (a+j)) (U (a+j)) (((a+j:Nat):Int)*d)
 | 0,_=>hR
 | j+1,hj=>by
  have h1:=SubB.rpw1 hi hR j (by omega)
  have h2:=h.hU (a+j) (by omega) 1 (by omega) (by omega) (by omega)
  refine (h1.mulS (h.hB i hi) (h.d1 _) h.d0).mono (by rw [← Nat.add_assoc,Nat.pow_succ,Nat.mul_comm];exact Nat.le_refl _) (Nat.le_trans ?_ h2) ?_
  ·rw [Nat.pow_one]
   exact Nat.mul_le_mul_left t (by have:=h.M1;omega)
  ·rw [show ((a + (j + 1) : Nat) : Int) = ((a + j : Nat) : Int) + 1 by omega, Int.add_mul]
   omega
theorem SubB.rt {c : Rat} (hc:RSz c K) {m:Nat→Int}:∀ i,i≤8→sN m i≤D→PB (rtL c B m i) (t ^ sN m i) (U (sN m i)) ((sN m i:Int)*d)
 | 0,_,_=>(constL_pb hc (d:=0) (by omega)).mono (by simp [sN]) h.U0 (by simp [sN])
 | i+1,hi,hs=>by
  have hs':sN m i+(m i).toNat≤D:=hs
  exact h.rpw1 (by omega) (SubB.rt hc i (by omega) (by omega)) _ hs'
end
def rsubF (B : Nat→List Tm) (P:List Tm):List Tm:=P.foldl (fun a t=>if vanB B t.m = true then a else mrg a (rtL t.c B t.m 8)) []
theorem rsub_take {B : Nat→List Tm} {P:List Tm} {k:Nat} (h:k<P.length):rsubF B (P.take (k+1)) = if vanB B (tAt P k).m = true then rsubF B (P.take k) else mrg (rsubF B (P.take k)) (rtL (tAt P k).c B (tAt P k).m 8):=foldl_tAt (fun a t=>if vanB B t.m = true then a else mrg a (rtL t.c B t.m 8)) [] h
theorem rsub_pb {B : Nat→List Tm} {t w:Nat} {d:Int} {K D:Nat} {U M:Nat→Nat} (h:SubB B t w d K D U M) (hUm:∀ a,a≤D→U a≤U D) {P:List Tm} (hP:PSz P K) (hs:∀ t∈P,sN t.m 8≤D):∀ k,k≤P.length→PB (rsubF B (P.take k)) (k*t ^ D) (k*(U D+1)) ((D:Int)*d)
 | 0,_=>PB.nil
 | k+1,hk=>by
  have h1:=rsub_pb h hUm hP hs k (by omega)
  have hm:=tAt_mem (show k<P.length by omega)
  rw [rsub_take (by omega)]
  split
  ·exact h1.mono (Nat.mul_le_mul_right _ (by omega)) (Nat.mul_le_mul_right _ (by omega)) (Int.le_refl _)
  ·have h2 := h.rt (hP _ hm) 8 (by omega) (hs _ hm)
   have h3:t ^ sN (tAt P k).m 8≤t ^ D:=Nat.pow_le_pow_right h.t0 (hs _ hm)
   have h4:=hUm _ (hs _ hm)
   have h5:(sN (tAt P k).m 8:Int)*d≤(D:Int)*d:=Int.mul_le_mul_of_nonneg_right (by have:=hs _ hm;omega) h.d0
   refine (h1.add (h2.mono h3 h4 h5)).mono (by rw [Nat.succ_mul];exact Nat.le_refl _) (by rw [Nat.succ_mul];omega) (by omega)
theorem rsub_sim (B : Nat→List Tm) (P:List Tm):Sim (rsubF B P) (substL B P):=by
 have key:∀ (P A:List Tm),Sim (P.foldl (fun a t=>if vanB B t.m = true then a else mrg a (rtL t.c B t.m 8)) A) (A ++ substL B P):=by
  intro P
  induction P with
  | nil=>intro A;simp [substL];exact Sim.refl _
  | cons t P ih =>
   intro A
   have e:substL B (t :: P) = trmL t.c B t.m 8 ++ substL B P:=by simp [substL]
   rw [List.foldl_cons,e,← List.append_assoc]
   refine (ih _).trans ((?_:Sim _ _).append (Sim.refl _))
   split
   ·rename_i hv
    obtain ⟨z,h1,h2,h3⟩:=vanB_iff.1 hv
    have:=(Sim.refl A).append (trmL_zero t.c h1 h2 h3).symm
    simpa using this
   ·exact (mrg_sim _ _).trans ((Sim.refl A).append ((rtL_sim t.c B t.m 8).trans (trmL_sim t.c B t.m 8).symm))
 exact key P []
abbrev subH (B : Nat→List Tm) (l:Nat→Nat) (E:List Tm) (z:List Ow):List Ow:=.var 77 ((pol8 B).map .d) :: .dead :: .dead :: .var 77 ((pol8 B).map .d) :: .var 144 [.own 5,.own 6,.own 7,.own 8,.own 9,.own 10,.own 11,.own 12] :: .row 23 1 (rowP (powL (B 0) (l 0))) :: .row 23 1 (rowP (powL (B 1) (l 1))) :: .row 23 1 (rowP (powL (B 2) (l 2))) :: .row 23 1 (rowP (powL (B 3) (l 3))) :: .row 23 1 (rowP (powL (B 4) (l 4))) :: .row 23 1 (rowP (powL (B 5) (l 5))) :: .row 23 1 (rowP (powL (B 6) (l 6))) :: .row 23 1 (rowP (powL (B 7) (l 7))) :: .obj (mapO (entD E)) :: z
theorem PSubst_abs (P : List Tm) {B:Nat→List Tm} {t w:Nat} {d:Int} {K Dg:Nat} {U M:Nat→Nat} (h:SubB B t w d K Dg U M) (hUm:∀ a,a≤Dg→U a≤U Dg) {n:Nat} {dp:Int} (hP:PB P n K dp) (hdp:dp≤65535) (hs:∀ t∈P,sN t.m 8≤Dg) (hV:∀ t∈P,∀ i,4≤i→i<8→t.m i = 0) (hD:Dg≤64) (ht1:t≤100000) (hdeg:degL P≤64) (hnn:n*t ^ Dg≤100000) (hUD:U Dg+1≤10000000) (hd1:(Dg:Int)*d+d≤65535) (hMm:∀ e,e≤Dg→M e≤M Dg) (hMD:M Dg+w+1≤10000000) (htD:t ^ Dg*t≤100000) :
  Abs Tryz.prog 45 [polD P,agD (pol8 B)] (tupD [polD (rsubF B P),ex (.int .i64 0)]):=by
 have hl:=hP.len
 have hnl:n≤100000:=Nat.le_trans (Nat.le_mul_of_pos_right n (Nat.pow_pos h.t0)) hnn
 have cdeg:=PDeg_abs P (hP.ex.mono (Int.le_refl _) hdp) (by omega)
 have hBl:∀ i,i<8→(B i).length≤100000:=fun i hi=>Nat.le_trans (h.hB i hi).len ht1
 have hrow:∀ i,i<8→In8 (bnd8 B 8 i) 0 d:=fun i hi=>by
  simp only [bnd8,if_pos hi]
  exact degV_in (h.hB i hi).ex h.d0
 have cbig:∀ k,k<P.length→Abs Tryz.prog 112 [agD (monC (tAt P k).m),agD (row8 (bnd8 B 8))] (ex (.bool false)):=fun k hk=>by
  have hm:=hP.ex (tAt P k) (tAt_mem hk)
  have hm0:∀ i,i<8→0≤(tAt P k).m i:=fun i hi=>(hm i hi).1
  have hsk:=hs (tAt P k) (tAt_mem hk)
  have key:∀ j,j<8→∀ i,i≤8→0≤bigS (tAt P k).m (bnd8 B 8) j i∧bigS (tAt P k).m (bnd8 B 8) j i≤65535:=fun j hj i hi=>by
   have h1:=bigS_le (m:=(tAt P k).m) (b:=bnd8 B 8) (k:=j) (d:=d) hm0 (fun i hi=>hrow i hi j hj) i hi
   rw [sumTo_sN hm0 i hi] at h1
   have h2:=h.dN (a:=sN (tAt P k).m i) (Nat.le_trans (sN_mono hi) hsk)
   omega
  refine tooBigF_abs _ _ (fun i hi=>?_) (fun i hi j hj=>?_) (fun j hj i hi=>?_) fun j hj=>(key j hj 8 (by omega)).2
  ·have:=hm i hi;omega
  ·have:=hrow i hi j hj;have:=h.d1 Dg;omega
  ·have:=key j hj i hi;omega
 refine Ab Tryz.func45 fun s0=>?_
 rw [Tryz.ntmps45]
 apply Y1;refine AWs.bx (ao rfl) rfl rfl rfl rfl ?_;refine Wa ?_;refine Wa ?_;apply Y0;apply AWp.seq;apply Y1;refine Wm ?_;refine Wq (Qz.call (cdeg)) ?_;refine Wq Qz.cmpF ?_;apply Y0;refine Cf ?_;apply Ys;apply Y1;refine AWs.al (tab_of rfl) rfl rfl rfl rfl rfl rfl ?_;apply Y0;apply AWp.seq;apply Y1;refine Wm ?_;apply Y0;apply AWp.block
 refine AWp.loop (fun mz σ=>∃ k,k≤8∧mz = 8 - k∧σ = ⟨[(0,.d (polD P)),(3,.ptr 0 0),(6,.ptr 1 0),(22,.d (ex (.int .i64 (k:Nat))))],[.var 77 ((pol8 B).map .d),.var 120 ((row8 (bnd8 B k)).map .d)]⟩) ?le ⟨0,by omega,rfl,rfl⟩ ?round
 case le=>exact AS.le_of (by refine Yd ?_;refine Yp ?_;refine Yp ?_;refine Yd ?_;exact FrLe.nil) (by apply Yv;apply Yv;exact HpLe.nil)
 case round =>
  rintro mz _ ⟨k,hk,rfl,rfl⟩
  by_cases hlt:k<8
  ·have hk:=hBl k hlt
   have hset:=bnd8_set B k
   apply Y1;refine Wq Qz.cmpT ?_;apply Y0;apply AWp.seq;refine Ct ?_;apply Ys;apply AWp.seq;apply AWp.block;apply Y1;refine Wm ?_;refine Wa ?_;apply Y0;apply AWp.region;refine Wm ?_;refine Wm ?_;refine Wq Qz.ixP ?_;(refine AWs.q rfl rfl ?_;refine ⟨_,Qs.ldX1 (ao rfl) rfl (tab_of rfl) rfl (CellAt.p8 (by omega)),?_⟩);refine Wq (Qz.call (degs_abs (B k) (by omega))) ?_;refine Wq Qz.ixP ?_;refine AWs.stX (ao rfl) (ao rfl) rfl (tab_of rfl) rfl (SetAt.r8 (by omega)) rfl ?_;apply AWl.nil;apply ABlock.normal;apply Yn;apply AWp.region;refine Wq Qz.succ ?_;refine Wm ?_;apply AWl.nil
   refine ALoop.next (8 - (k+1)) (by omega) ⟨k+1,by omega,rfl,rfl⟩ ?_
   exact AS.le_of (by refine Yd ?_;refine Yp ?_;refine Yp ?_;refine Yd ?_;exact FrLe.nil) (by apply Yv;refine HpLe.cons (OwLe.varD hset) ?_;exact HpLe.nil)
  ·obtain rfl : k = 8 := by omega
   apply Y1;refine Wq Qz.cmpF ?_;apply Y0;apply AWp.seq;refine Cf ?_;apply AWp.exit;apply AThen.exit;apply ALoop.exit;apply ABlock.hit;apply Yn;apply AWp.seq;apply Y1;refine Wm ?_;refine Wq Qz.lenN ?_;refine Wm ?_;apply Y0;apply AWp.block
   refine AWp.loop (fun mz σ=>∃ k,k≤P.length∧mz = P.length - k∧σ = ⟨[(0,.d (polD P)),(3,.ptr 0 0),(6,.ptr 1 0),(32,.d (polD P)),(33,.d (ex (.int .i64 (P.length:Nat)))),(34,.d (ex (.int .i64 (k:Nat))))],[.var 77 ((pol8 B).map .d),.var 120 ((row8 (bnd8 B 8)).map .d)]⟩) ?le ⟨0,by omega,rfl,rfl⟩ ?round
   case le=>exact AS.le_of (by refine Yd ?_;refine Yp ?_;refine Yp ?_;refine Yd ?_;refine Yd ?_;refine Yd ?_;exact FrLe.nil) (by apply Yv;apply Yv;exact HpLe.nil)
   case round =>
    rintro mz _ ⟨k,hk,rfl,rfl⟩
    by_cases hlt:k<P.length
    ·obtain ⟨b,hb,cv,-⟩:=van_abs (tAt P k).m B hBl
     have cb:=cbig k hlt
     cases b with
     | true =>
      apply Y1;refine Wq Qz.cmpT ?_;apply Y0;apply AWp.seq;refine Ct ?_;apply Ys;apply AWp.seq;apply AWp.block;apply Y1;refine Wq Qz.indexN ?_;refine Wq Qz.loadEf ?_;refine AWs.al (tab_of rfl) rfl rfl rfl rfl rfl rfl ?_;refine Sf ?_;apply Y0;apply Y1;refine Wq Qz.fldP ?_;refine Wq Qz.ldD ?_;refine Wq Qz.ldD ?_;refine Wq (Qz.call (cv)) ?_;refine Wq Qz.not ?_;refine Wm ?_;refine Ws ?_;refine Ws ?_;refine Ws ?_;refine Ws ?_;refine Wq Qz.pickF ?_;apply Y0;refine Cf ?_;apply AWp.skip;apply ABlock.normal;apply Yn;apply AWp.region;refine Wq Qz.succ ?_;refine Wm ?_;apply AWl.nil
      refine ALoop.next (P.length - (k+1)) (by omega) ⟨k+1,by omega,rfl,rfl⟩ ?_
      exact AS.le_of (by refine Yd ?_;refine Yp ?_;refine Yp ?_;refine Yd ?_;refine Yd ?_;refine Yd ?_;exact FrLe.nil) (by apply Yv;apply Yv;exact HpLe.nil)
     | false =>
      apply Y1;refine Wq Qz.cmpT ?_;apply Y0;apply AWp.seq;refine Ct ?_;apply Ys;apply AWp.seq;apply AWp.block;apply Y1;refine Wq Qz.indexN ?_;refine Wq Qz.loadEf ?_;refine AWs.al (tab_of rfl) rfl rfl rfl rfl rfl rfl ?_;refine Sf ?_;apply Y0;apply Y1;refine Wq Qz.fldP ?_;refine Wq Qz.ldD ?_;refine Wq Qz.ldD ?_;refine Wq (Qz.call (cv)) ?_;refine Wq Qz.not ?_;refine Wm ?_;refine Wg Qz.fldP ?_;refine Wg Qz.ldD ?_;refine Wg Qz.ldD ?_;refine Wg (Qz.call (cb)) ?_;refine Wq Qz.pickT ?_;apply Y0;refine Cf ?_;apply AWp.skip;apply ABlock.normal;apply Yn;apply AWp.region;refine Wq Qz.succ ?_;refine Wm ?_;apply AWl.nil
      refine ALoop.next (P.length - (k+1)) (by omega) ⟨k+1,by omega,rfl,rfl⟩ ?_
      exact AS.le_of (by refine Yd ?_;refine Yp ?_;refine Yp ?_;refine Yd ?_;refine Yd ?_;refine Yd ?_;exact FrLe.nil) (by apply Yv;apply Yv;exact HpLe.nil)
    ·obtain rfl : k = P.length := by omega
     apply Y1;refine Wq Qz.cmpF ?_;apply Y0;apply AWp.seq;refine Cf ?_;apply AWp.exit;apply AThen.exit;apply ALoop.exit;apply ABlock.hit;apply Yn;apply Y1;refine Wq Qz.ldD ?_
     refine AWs.con [] [] (powers_con B) (by first | exact Or.inl rfl | exact Or.inr ⟨by decide,rfl,by repeat (first | exact AvoidR.nil | refine AvoidR.give rfl ?_ | refine AvoidR.dead ?_ | refine AvoidR.row ?_ | refine AvoidR.obj ?_ | refine AvoidR.varD ?_ | refine AvoidR.varA rfl ?_ | refine AvoidR.pin rfl ?_)⟩) rfl rfl (by first | exact .inl ⟨rfl,rfl⟩ | exact .inr ⟨rfl,rfl⟩) (by repeat (first | exact ArgsC.nil | refine ArgsC.d rfl (D.le.refl _) ?_ | refine ArgsC.av rfl rfl ?_)) (by decide) (by repeat (first | exact SelR.nil | refine SelR.var rfl ?_ | refine SelR.obj rfl ?_ | refine SelR.row rfl ?_ | refine SelR.varA rfl rfl rfl ?_)) (by repeat (first | exact trivial | refine ⟨⟨_,_,rfl⟩,?_⟩)) rfl ?_
     rintro _ _ ⟨rfl,rfl⟩
     refine ⟨_,_,_,(by first | exact AVRen.d | exact AVRen.own rfl | exact AVRen.ptr rfl | exact AVRen.fn rfl),(by repeat (first | exact SetR.nil | (apply SetR.cons;(first | exact OwRen.dead | exact OwRen.varD | exact OwRen.obj | exact OwRen.row | exact OwRen.varA rfl);exact rfl))),(by repeat (first | exact AppR.nil | (apply AppR.cons;(first | exact OwRen.dead | exact OwRen.varD | exact OwRen.obj | exact OwRen.row | exact OwRen.varA rfl);exact rfl))),?_⟩
     refine Wa ?_;apply Y0;apply Y1;refine AWs.mnew rfl rfl rfl ?_;refine Wa ?_;apply Y0;apply AWp.seq;apply Y1;refine Wm ?_;refine Wq Qz.lenN ?_;refine Wm ?_;apply Y0;apply AWp.block
     refine AWp.loop (fun mz σ=>∃ k E l,k≤P.length∧Colld E (subTo B P k) (k*t ^ Dg) (U Dg+1) ((Dg:Int)*d)∧(∀ i,l i≤Dg)∧mz = P.length - k∧σ = ⟨[(0,.d (polD P)),(3,.ptr 0 0),(10,.fn 149 [4,3]),(11,.own 13),(53,.d (polD P)),(54,.d (ex (.int .i64 (P.length:Nat)))),(55,.d (ex (.int .i64 (k:Nat))))],subH B l E []⟩) ?lea ⟨0,[],fun _=>0,by omega,by rw [Nat.zero_mul];exact Colld.nil _ _,fun _=>Nat.zero_le _,rfl,rfl⟩ ?rounda
     case lea=>exact AS.le_of (by refine Yd ?_;refine Yp ?_;refine FrLe.cons rfl (AVle.fn rfl) ?_;refine FrLe.cons rfl (AVle.own rfl) ?_;refine Yd ?_;refine Yd ?_;refine Yd ?_;exact FrLe.nil) (by apply Yv;refine HpLe.cons (OwLe.dead) ?_;refine HpLe.cons (OwLe.dead) ?_;apply Yv;refine HpLe.cons (OwLe.varB rfl) ?_;apply Yr;apply Yr;apply Yr;apply Yr;apply Yr;apply Yr;apply Yr;apply Yr;refine HpLe.cons (OwLe.obj rfl) ?_;exact HpLe.nil)
     case rounda =>
      rintro mz _ ⟨k,E,l,hk,hC,hlD,rfl,rfl⟩
      by_cases hlt:k<P.length
      ·obtain ⟨b,hb,cv,-⟩:=van_abs (tAt P k).m B hBl
       have hmem:=tAt_mem hlt
       have hsk:=hs (tAt P k) hmem
       have hsub:=subTo_succ B hlt
       cases b with
       | true =>
        obtain ⟨z,hz1,hz2,hz3⟩:=hb.1 rfl
        apply Y1;refine Wq Qz.cmpT ?_;apply Y0;apply AWp.seq;refine Ct ?_;apply Ys;apply AWp.seq;apply AWp.block;apply Y1;refine Wq Qz.indexN ?_;refine Wq Qz.loadEf ?_;refine AWs.al (tab_of rfl) rfl rfl rfl rfl rfl rfl ?_;refine Sf ?_;apply Y0;apply AWp.seq;apply Y1;refine Wq Qz.fldP ?_;refine Wq Qz.ldD ?_;refine Wq Qz.ldD ?_;refine Wq (Qz.call (cv)) ?_;apply Y0;refine Ct ?_;apply AWp.exit;apply AThen.exit;apply ABlock.hit;apply Yn;apply AWp.region;refine Wq Qz.succ ?_;refine Wm ?_;apply AWl.nil
        refine ALoop.next (P.length - (k+1)) (by omega) ⟨k+1,E,l,by omega,(hC.simR ?_).more (Nat.mul_le_mul_right _ (by omega)),hlD,rfl,rfl⟩ ?_
        ·rw [hsub]
         have:=(Sim.refl (subTo B P k)).append (trmL_zero (tAt P k).c hz1 hz2 hz3).symm
         simpa using this
        exact AS.le_of (by refine Yd ?_;refine Yp ?_;refine FrLe.cons rfl (AVle.fn rfl) ?_;refine FrLe.cons rfl (AVle.own rfl) ?_;refine Yd ?_;refine Yd ?_;refine Yd ?_;exact FrLe.nil) (by apply Yv;refine HpLe.cons (OwLe.dead) ?_;refine HpLe.cons (OwLe.dead) ?_;apply Yv;refine HpLe.cons (OwLe.varB rfl) ?_;apply Yr;apply Yr;apply Yr;apply Yr;apply Yr;apply Yr;apply Yr;apply Yr;refine HpLe.cons (OwLe.obj rfl) ?_;exact HpLe.nil)
       | false =>
        have hmm:=hP.ex (tAt P k) hmem
        have hcz:=hP.sz (tAt P k) hmem
        apply Y1;refine Wq Qz.cmpT ?_;apply Y0;apply AWp.seq;refine Ct ?_;apply Ys;apply AWp.seq;apply AWp.block;apply Y1;refine Wq Qz.indexN ?_;refine Wq Qz.loadEf ?_;refine AWs.al (tab_of rfl) rfl rfl rfl rfl rfl rfl ?_;refine Sf ?_;apply Y0;apply AWp.seq;apply Y1;refine Wq Qz.fldP ?_;refine Wq Qz.ldD ?_;refine Wq Qz.ldD ?_;refine Wq (Qz.call (cv)) ?_;apply Y0;refine Cf ?_;apply Ys;apply Y1;refine Wq Qz.fldP ?_;refine Wq Qz.ldD ?_;refine Wq (Qz.call (PConst_abs (tAt P k).c)) ?_;refine Wa ?_;apply Y0;apply AWp.seq;apply Y1;refine Wq Qz.fldP ?_;refine Wq Qz.ldD ?_;refine Wm ?_;apply Y0;apply AWp.block
        refine AWp.loop (fun mz σ=>∃ i l,i≤8∧(∀ i,l i≤Dg)∧mz = 8 - i∧σ = ⟨[(0,.d (polD P)),(3,.ptr 0 0),(10,.fn 149 [4,3]),(11,.own 13),(13,.ptr 14 0),(14,.d (polD (trmL (tAt P k).c B (tAt P k).m i))),(53,.d (polD P)),(54,.d (ex (.int .i64 (P.length:Nat)))),(55,.d (ex (.int .i64 (k:Nat)))),(67,.d (agD (monC (tAt P k).m))),(68,.d (ex (.int .i64 (i:Nat))))],subH B l E [.var 33 ((tmC (tAt P k)).map .d)]⟩) ?leb ⟨0,l,by omega,hlD,rfl,rfl⟩ ?roundb
        case leb=>exact AS.le_of (by refine Yd ?_;refine Yp ?_;refine FrLe.cons rfl (AVle.fn rfl) ?_;refine FrLe.cons rfl (AVle.own rfl) ?_;refine Yp ?_;refine Yd ?_;refine Yd ?_;refine Yd ?_;refine Yd ?_;refine Yd ?_;refine Yd ?_;exact FrLe.nil) (by apply Yv;refine HpLe.cons (OwLe.dead) ?_;refine HpLe.cons (OwLe.dead) ?_;apply Yv;refine HpLe.cons (OwLe.varB rfl) ?_;apply Yr;apply Yr;apply Yr;apply Yr;apply Yr;apply Yr;apply Yr;apply Yr;refine HpLe.cons (OwLe.obj rfl) ?_;apply Yv;exact HpLe.nil)
        case roundb =>
         rintro mz _ ⟨i,l,hi8,hlD,rfl,rfl⟩
         by_cases hlti:i<8
         ·have hmi:=hmm i hlti
          have hsi:sN (tAt P k).m (i+1)≤Dg:=Nat.le_trans (sN_mono (by omega)) hsk
          have hsi2:sN (tAt P k).m (i+1) = sN (tAt P k).m i+((tAt P k).m i).toNat:=rfl
          by_cases h0:0<(tAt P k).m i
          ·have htr:trmL (tAt P k).c B (tAt P k).m (i+1) = pmul (trmL (tAt P k).c B (tAt P k).m i) (pw (B i) (((tAt P k).m i).toNat - 1)):=if_pos h0
           have hi4:i<4:=Nat.lt_of_not_le fun h4=>by have:=hV _ hmem i h4 hlti;omega
           obtain ⟨e,he⟩:∃ e,((tAt P k).m i).toNat = e+1:=⟨((tAt P k).m i).toNat - 1,by omega⟩
           have b1:=h.trm hcz (m:=(tAt P k).m) i (by omega) (by omega)
           have b2:=h.pw (i:=i) hlti e (by omega)
           have b3:=h.tN (a:=sN (tAt P k).m i+(e+1)) (by omega)
           have b4:=h.W (sN (tAt P k).m i) (by omega) (e+1) (by omega) (by omega) (by omega)
           have b5:=h.dN (a:=sN (tAt P k).m i+(e+1)) (by omega)
           have b6:((sN (tAt P k).m i+(e+1):Nat):Int)*d = (sN (tAt P k).m i:Int)*d+((e+1:Nat):Int)*d:=by rw [← Int.add_mul];congr 1
           have cmul:=PMul_pb b1 b2 (h.d1 _) (h.d1 _) (by omega) (by rw [← Nat.pow_add];exact b3) b4
           rw [show e = ((tAt P k).m i).toNat - 1 by omega] at cmul
           have hpb:∀ k,k<Dg→PB (pw (B i) k) (t ^ Dg) (M Dg) ((Dg:Int)*d):=fun k hk=>(h.pw hlti k hk).mono (Nat.pow_le_pow_right h.t0 (by omega)) (hMm _ (by omega)) (Int.mul_le_mul_of_nonneg_right (by omega) h.d0)
           apply Y1;refine Wq Qz.cmpT ?_;apply Y0;apply AWp.seq;refine Ct ?_;apply Ys;apply AWp.seq;apply AWp.block;apply Y1;refine Wm ?_;refine Wq Qz.atX1 ?_;refine Wa ?_;refine Wa ?_;apply Y0;apply Y1;refine Wm ?_;refine Wq Qz.cmpT ?_;apply Y0;refine Ct ?_;apply AWp.region;refine Wm ?_;refine Wm ?_;refine Wm ?_;refine Wm ?_
           refine AWs.con [4,3,5,6,7,8,9,10,11,12] [0,1] (powers1_con B l i hi4 ((tAt P k).m i) (e+1) Dg t w (t ^ Dg) (M Dg) d ((Dg:Int)*d) (by omega) (h.hB i hlti) hpb h.d0 (h.d1 _) hd1 htD hMD (by omega) (by omega) (hlD i) (by omega)) (by first | exact Or.inl rfl | exact Or.inr ⟨by decide,rfl,by repeat (first | exact AvoidR.nil | refine AvoidR.give rfl ?_ | refine AvoidR.dead ?_ | refine AvoidR.row ?_ | refine AvoidR.obj ?_ | refine AvoidR.varD ?_ | refine AvoidR.varA rfl ?_ | refine AvoidR.pin rfl ?_)⟩) rfl rfl (by first | exact .inl ⟨rfl,rfl⟩ | exact .inr ⟨rfl,rfl⟩) (by repeat (first | exact ArgsC.nil | refine ArgsC.d rfl (D.le.refl _) ?_ | refine ArgsC.av rfl rfl ?_)) (by decide) (by repeat (first | exact SelR.nil | refine SelR.var rfl ?_ | refine SelR.obj rfl ?_ | refine SelR.row rfl ?_ | refine SelR.varA rfl rfl rfl ?_)) (by repeat (first | exact trivial | refine ⟨⟨_,_,rfl⟩,?_⟩)) rfl ?_
           rintro _ _ ⟨n',hn',rfl,rfl⟩
           refine ⟨_,_,_,(by first | exact AVRen.d | exact AVRen.own rfl | exact AVRen.ptr rfl | exact AVRen.fn rfl),(by repeat (first | exact SetR.nil | (apply SetR.cons;(first | exact OwRen.dead | exact OwRen.varD | exact OwRen.obj | exact OwRen.row | exact OwRen.varA rfl);exact rfl))),(by repeat (first | exact AppR.nil | (apply AppR.cons;(first | exact OwRen.dead | exact OwRen.varD | exact OwRen.obj | exact OwRen.row | exact OwRen.varA rfl);exact rfl))),?_⟩
           refine Wq (Qz.call (cmul)) ?_;refine Wm ?_;refine Wq Qz.ext ?_;refine Wq Qz.ext ?_;refine Wa ?_;apply AWl.nil;apply ABlock.normal;apply Yn;apply AWp.region;refine Wq Qz.succ ?_;refine Wm ?_;apply AWl.nil
           refine ALoop.next (8 - (i+1)) (by omega) ⟨i+1,upF l i n',by omega,fun j=>?_,rfl,rfl⟩ ?_
           ·simp only [upF]
            split
            ·exact hn'
            ·exact hlD j
           exact AS.le_of (by refine Yd ?_;refine Yp ?_;refine FrLe.cons rfl (AVle.fn rfl) ?_;refine FrLe.cons rfl (AVle.own rfl) ?_;refine Yp ?_;refine FrLe.cons rfl (AVle.d (by rw [htr])) ?_;refine Yd ?_;refine Yd ?_;refine Yd ?_;refine Yd ?_;refine Yd ?_;exact FrLe.nil) (by apply Yv;refine HpLe.cons (OwLe.dead) ?_;refine HpLe.cons (OwLe.dead) ?_;refine HpLe.cons (OwLe.varB rfl) ?_;refine HpLe.cons (OwLe.varB rfl) ?_;apply Yr;apply Yr;apply Yr;apply Yr;apply Yr;apply Yr;apply Yr;apply Yr;refine HpLe.cons (OwLe.obj rfl) ?_;apply Yv;exact HpLe.nil)
          ·have htr:trmL (tAt P k).c B (tAt P k).m (i+1) = trmL (tAt P k).c B (tAt P k).m i:=if_neg h0
           apply Y1;refine Wq Qz.cmpT ?_;apply Y0;apply AWp.seq;refine Ct ?_;apply Ys;apply AWp.seq;apply AWp.block;apply Y1;refine Wm ?_;refine Wq Qz.atX1 ?_;refine Wa ?_;refine Wa ?_;apply Y0;apply Y1;refine Wm ?_;refine Wq Qz.cmpF ?_;apply Y0;refine Cf ?_;apply AWp.skip;apply ABlock.normal;apply Yn;apply AWp.region;refine Wq Qz.succ ?_;refine Wm ?_;apply AWl.nil
           refine ALoop.next (8 - (i+1)) (by omega) ⟨i+1,l,by omega,hlD,rfl,rfl⟩ ?_
           exact AS.le_of (by refine Yd ?_;refine Yp ?_;refine FrLe.cons rfl (AVle.fn rfl) ?_;refine FrLe.cons rfl (AVle.own rfl) ?_;refine Yp ?_;refine FrLe.cons rfl (AVle.d (by rw [htr])) ?_;refine Yd ?_;refine Yd ?_;refine Yd ?_;refine Yd ?_;refine Yd ?_;exact FrLe.nil) (by apply Yv;refine HpLe.cons (OwLe.dead) ?_;refine HpLe.cons (OwLe.dead) ?_;apply Yv;refine HpLe.cons (OwLe.varB rfl) ?_;apply Yr;apply Yr;apply Yr;apply Yr;apply Yr;apply Yr;apply Yr;apply Yr;refine HpLe.cons (OwLe.obj rfl) ?_;apply Yv;exact HpLe.nil)
         ·obtain rfl : i = 8 := by omega
          have hR:=h.trm hcz (m:=(tAt P k).m) 8 (by omega) hsk
          have hRl:t ^ sN (tAt P k).m 8≤t ^ Dg:=Nat.pow_le_pow_right h.t0 hsk
          have hRU:=hUm _ hsk
          have hRd:(sN (tAt P k).m 8:Int)*d≤(Dg:Int)*d:=Int.mul_le_mul_of_nonneg_right (by omega) h.d0
          have hR:=hR.mono hRl hRU hRd
          have hRlen:=hR.len
          have hkn:k*t ^ Dg+t ^ Dg≤n*t ^ Dg:=by rw [← Nat.succ_mul];exact Nat.mul_le_mul_right _ (by omega)
          have htD1:t ^ Dg≤100000:=h.tD
          generalize hRe:trmL (tAt P k).c B (tAt P k).m 8 = R at *
          apply Y1;refine Wq Qz.cmpF ?_;apply Y0;apply AWp.seq;refine Cf ?_;apply AWp.exit;apply AThen.exit;apply ALoop.exit;apply ABlock.hit;apply Yn;apply Y1;refine Wm ?_;refine Wq Qz.lenN ?_;refine Wm ?_;apply Y0;apply AWp.block
          refine AWp.loop (fun mz σ=>∃ j E',j≤R.length∧Colld E' (subTo B P k ++ R.take j) (k*t ^ Dg+j) (U Dg+1) ((Dg:Int)*d)∧mz = R.length - j∧σ = ⟨[(0,.d (polD P)),(3,.ptr 0 0),(10,.fn 149 [4,3]),(11,.own 13),(53,.d (polD P)),(54,.d (ex (.int .i64 (P.length:Nat)))),(55,.d (ex (.int .i64 (k:Nat)))),(84,.d (polD R)),(85,.d (ex (.int .i64 (R.length:Nat)))),(86,.d (ex (.int .i64 (j:Nat))))],subH B l E' []⟩) ?lec ⟨0,E,by omega,by simpa using hC,rfl,rfl⟩ ?roundc
          case lec=>exact AS.le_of (by refine Yd ?_;refine Yp ?_;refine FrLe.cons rfl (AVle.fn rfl) ?_;refine FrLe.cons rfl (AVle.own rfl) ?_;refine Yd ?_;refine Yd ?_;refine Yd ?_;refine Yd ?_;refine Yd ?_;refine Yd ?_;exact FrLe.nil) (by apply Yv;refine HpLe.cons (OwLe.dead) ?_;refine HpLe.cons (OwLe.dead) ?_;apply Yv;refine HpLe.cons (OwLe.varB rfl) ?_;apply Yr;apply Yr;apply Yr;apply Yr;apply Yr;apply Yr;apply Yr;apply Yr;refine HpLe.cons (OwLe.obj rfl) ?_;exact HpLe.nil)
          case roundc =>
           rintro mz _ ⟨j,E',hj,hC',rfl,rfl⟩
           by_cases hltj:j<R.length
           ·have hjm:=tAt_mem hltj
            have hN1:(k*t ^ Dg+j)*(U Dg+1)≤100000*10000000:=Nat.mul_le_mul (by omega) hUD
            apply Y1;refine Wq Qz.cmpT ?_;apply Y0;apply AWp.seq;refine Ct ?_;apply Ys;apply AWp.seq;apply AWp.block;apply Y1;refine Wq Qz.indexN ?_;refine Wq Qz.loadEf ?_;refine AWs.al (tab_of rfl) rfl rfl rfl rfl rfl rfl ?_;refine Sf ?_;apply Y0;apply AWp.region;refine Wm ?_;refine Wq Qz.fldP ?_;refine Wq Qz.ldD ?_;refine Wq Qz.fldP ?_;refine Wq Qz.ldD ?_
            refine AWs.con [13] [] (collect_con E' (tAt R j).c (tAt R j).m ((k*t ^ Dg+j)*(U Dg+1)) (U Dg) hC'.sz (hR.sz _ hjm) (by omega)) (by first | exact Or.inl rfl | exact Or.inr ⟨by decide,rfl,by repeat (first | exact AvoidR.nil | refine AvoidR.give rfl ?_ | refine AvoidR.dead ?_ | refine AvoidR.row ?_ | refine AvoidR.obj ?_ | refine AvoidR.varD ?_ | refine AvoidR.varA rfl ?_ | refine AvoidR.pin rfl ?_)⟩) rfl rfl (by first | exact .inl ⟨rfl,rfl⟩ | exact .inr ⟨rfl,rfl⟩) (by repeat (first | exact ArgsC.nil | refine ArgsC.d rfl (D.le.refl _) ?_ | refine ArgsC.av rfl rfl ?_)) (by decide) (by repeat (first | exact SelR.nil | refine SelR.var rfl ?_ | refine SelR.obj rfl ?_ | refine SelR.row rfl ?_ | refine SelR.varA rfl rfl rfl ?_)) (by repeat (first | exact trivial | refine ⟨⟨_,_,rfl⟩,?_⟩)) rfl ?_
            rintro _ _ ⟨E2,hc2,rfl,rfl⟩
            refine ⟨_,_,_,(by first | exact AVRen.d | exact AVRen.own rfl | exact AVRen.ptr rfl | exact AVRen.fn rfl),(by repeat (first | exact SetR.nil | (apply SetR.cons;(first | exact OwRen.dead | exact OwRen.varD | exact OwRen.obj | exact OwRen.row | exact OwRen.varA rfl);exact rfl))),(by repeat (first | exact AppR.nil | (apply AppR.cons;(first | exact OwRen.dead | exact OwRen.varD | exact OwRen.obj | exact OwRen.row | exact OwRen.varA rfl);exact rfl))),?_⟩
            apply AWl.nil;apply ABlock.normal;apply Yn;apply AWp.region;refine Wq Qz.succ ?_;refine Wm ?_;apply AWl.nil
            refine ALoop.next (R.length - (j+1)) (by omega) ⟨j+1,E2,by omega,?_,rfl,rfl⟩ ?_
            ·have:=hC'.step hc2 (hR.sz _ hjm) (Nat.le_refl _) (hR.ex _ hjm)
             rw [List.append_assoc] at this
             rw [← take_tAt hltj]
             exact this
            exact AS.le_of (by refine Yd ?_;refine Yp ?_;refine FrLe.cons rfl (AVle.fn rfl) ?_;refine FrLe.cons rfl (AVle.own rfl) ?_;refine Yd ?_;refine Yd ?_;refine Yd ?_;refine Yd ?_;refine Yd ?_;refine Yd ?_;exact FrLe.nil) (by apply Yv;refine HpLe.cons (OwLe.dead) ?_;refine HpLe.cons (OwLe.dead) ?_;apply Yv;refine HpLe.cons (OwLe.varB rfl) ?_;apply Yr;apply Yr;apply Yr;apply Yr;apply Yr;apply Yr;apply Yr;apply Yr;refine HpLe.cons (OwLe.obj rfl) ?_;exact HpLe.nil)
           ·obtain rfl : j = R.length := by omega
            apply Y1;refine Wq Qz.cmpF ?_;apply Y0;apply AWp.seq;refine Cf ?_;apply AWp.exit;apply AThen.exit;apply ALoop.exit;apply ABlock.hit;apply ABlock.normal;apply Yn;apply AWp.region;refine Wq Qz.succ ?_;refine Wm ?_;apply AWl.nil
            refine ALoop.next (P.length - (k+1)) (by omega) ⟨k+1,E',l,by omega,(hC'.simR ?_).more (by rw [Nat.succ_mul];omega),hlD,rfl,rfl⟩ ?_
            ·rw [hsub,List.take_length]
             exact Sim.refl _
            exact AS.le_of (by refine Yd ?_;refine Yp ?_;refine FrLe.cons rfl (AVle.fn rfl) ?_;refine FrLe.cons rfl (AVle.own rfl) ?_;refine Yd ?_;refine Yd ?_;refine Yd ?_;exact FrLe.nil) (by apply Yv;refine HpLe.cons (OwLe.dead) ?_;refine HpLe.cons (OwLe.dead) ?_;apply Yv;refine HpLe.cons (OwLe.varB rfl) ?_;apply Yr;apply Yr;apply Yr;apply Yr;apply Yr;apply Yr;apply Yr;apply Yr;refine HpLe.cons (OwLe.obj rfl) ?_;exact HpLe.nil)
      ·obtain rfl : k = P.length := by omega
       have hE:=hC.len
       have hE2:P.length*t ^ Dg≤n*t ^ Dg:=Nat.mul_le_mul_right _ hl
       apply Y1;refine Wq Qz.cmpF ?_;apply Y0;apply AWp.seq;refine Cf ?_;apply AWp.exit;apply AThen.exit;apply ALoop.exit;apply ABlock.hit;apply Yn;apply Y1;refine Wm ?_
       refine AWs.con [13] [] (sorted_con E (by omega)) (by first | exact Or.inl rfl | exact Or.inr ⟨by decide,rfl,by repeat (first | exact AvoidR.nil | refine AvoidR.give rfl ?_ | refine AvoidR.dead ?_ | refine AvoidR.row ?_ | refine AvoidR.obj ?_ | refine AvoidR.varD ?_ | refine AvoidR.varA rfl ?_ | refine AvoidR.pin rfl ?_)⟩) rfl rfl (by first | exact .inl ⟨rfl,rfl⟩ | exact .inr ⟨rfl,rfl⟩) (by repeat (first | exact ArgsC.nil | refine ArgsC.d rfl (D.le.refl _) ?_ | refine ArgsC.av rfl rfl ?_)) (by decide) (by repeat (first | exact SelR.nil | refine SelR.var rfl ?_ | refine SelR.obj rfl ?_ | refine SelR.row rfl ?_ | refine SelR.varA rfl rfl rfl ?_)) (by repeat (first | exact trivial | refine ⟨⟨_,_,rfl⟩,?_⟩)) rfl ?_
       rintro _ _ ⟨S,hS,rfl,rfl⟩
       refine ⟨_,_,_,(by first | exact AVRen.d | exact AVRen.own rfl | exact AVRen.ptr rfl | exact AVRen.fn rfl),(by repeat (first | exact SetR.nil | (apply SetR.cons;(first | exact OwRen.dead | exact OwRen.varD | exact OwRen.obj | exact OwRen.row | exact OwRen.varA rfl);exact rfl))),(by repeat (first | exact AppR.nil | (apply AppR.cons;(first | exact OwRen.dead | exact OwRen.varD | exact OwRen.obj | exact OwRen.row | exact OwRen.varA rfl);exact rfl))),?_⟩
       refine Wa ?_;refine Wa ?_;apply Y0;apply AWp.ret
       exact Fin.ret (Rets.of2 (ResV.tmp rfl rfl) (ResV.tmp rfl rfl) (D.le.tup2 (D.le.of_eq (polD_sim hS.1 (by have:=rsub_pb h hUm hP.sz hs P.length (Nat.le_refl _);rw [List.take_length] at this;exact this.can) (hS.2.1.trans (hC.sim.trans (by unfold subTo;rw [List.take_length];exact (rsub_sim B P).symm))))) (D.le.refl _)))
def Whl (P : List Tm):Prop:=∀ t∈P,∃ a:Int,t.c = (a:Rat)
def l1 : List Tm→Nat
 | []=>0
 | t :: P=>t.c.num.natAbs+l1 P
theorem Whl.tl {t : Tm} {P:List Tm} (h:Whl (t :: P)):Whl P:=fun u hu=>h u (by simp [hu])
theorem Whl.cons {t : Tm} {P:List Tm} (h:∃ a:Int,t.c = (a:Rat)) (k:Whl P):Whl (t :: P):=fun u hu=>by
 rcases List.mem_cons.1 hu with rfl | hu
 ·exact h
 ·exact k u hu
theorem mrg_l1 : ∀ {P Q:List Tm},Whl P→Whl Q→Whl (mrg P Q)∧l1 (mrg P Q)≤l1 P+l1 Q
 | [],Q,_,h=>by simp only [mrg];exact ⟨h,by simp [l1]⟩
 | s :: P,[],h,_=>by simp only [mrg];exact ⟨h,by simp [l1]⟩
 | s :: P,t :: Q,hP,hQ=>by
  rw [mrg]
  split
  ·obtain ⟨h1,h2⟩:=mrg_l1 hP.tl hQ
   exact ⟨h1.cons (hP s (by simp)),by simp only [l1] at h2 ⊢;omega⟩
  ·split
   ·obtain ⟨h1,h2⟩:=mrg_l1 hP hQ.tl
    exact ⟨h1.cons (hQ t (by simp)),by simp only [l1] at h2 ⊢;omega⟩
   ·obtain ⟨h1,h2⟩:=mrg_l1 hP.tl hQ.tl
    split
    ·exact ⟨h1,by simp only [l1];omega⟩
    ·obtain ⟨a, ha⟩ := hP s (by simp)
     obtain ⟨b,hb⟩:=hQ t (by simp)
     have e:s.c+t.c = ((a+b:Int):Rat):=by rw [ha,hb,Rat.intCast_add]
     refine ⟨h1.cons ⟨a+b,e⟩,?_⟩
     have e1:s.c.num = a:=by rw [ha,Rat.num_intCast]
     have e2:t.c.num = b:=by rw [hb,Rat.num_intCast]
     have e3:(s.c+t.c).num = a+b:=by rw [e,Rat.num_intCast]
     simp only [l1,e1,e2,e3]
     omega
termination_by P Q => P.length+Q.length
theorem tms_l1 {c : Rat} {m:Nat→Int} (hc:∃ a:Int,c = (a:Rat)):∀ {Q:List Tm},Whl Q→Whl (tms c m Q)∧l1 (tms c m Q) = c.num.natAbs*l1 Q
 | [],_=>⟨fun t ht=>(by cases ht),by simp [tms,l1]⟩
 | t :: Q,h=>by
  obtain ⟨h1,h2⟩:=tms_l1 hc h.tl
  obtain ⟨a,ha⟩:=hc
  obtain ⟨b,hb⟩:=h t (by simp)
  have e:c*t.c = ((a*b:Int):Rat):=by rw [ha,hb,Rat.intCast_mul]
  have e1:c.num = a:=by rw [ha,Rat.num_intCast]
  have e2:t.c.num = b:=by rw [hb,Rat.num_intCast]
  have e3:(c*t.c).num = a*b:=by rw [e,Rat.num_intCast]
  refine ⟨Whl.cons ⟨a*b,e⟩ h1,?_⟩
  show (c*t.c).num.natAbs+l1 (tms c m Q) = c.num.natAbs*(t.c.num.natAbs+l1 Q)
  rw [h2,e3,e1,e2,Int.natAbs_mul,Nat.mul_add]
theorem pmul_l1 {P Q:List Tm} (hP:Whl P) (hQ:Whl Q):Whl (pmul P Q)∧l1 (pmul P Q)≤l1 P*l1 Q:=by
 have key:∀ (P A:List Tm),Whl P→Whl A→Whl (mulTo A P Q)∧l1 (mulTo A P Q)≤l1 A+l1 P*l1 Q:=by
  intro P
  induction P with
  | nil=>intro A _ hA;exact ⟨hA,by simp [mulTo]⟩
  | cons t P ih =>
   intro A hP hA
   obtain ⟨h1,h2⟩:=tms_l1 (m:=t.m) (hP t (by simp)) hQ
   obtain ⟨h3,h4⟩:=mrg_l1 hA h1
   obtain ⟨h5,h6⟩:=ih _ hP.tl h3
   refine ⟨h5,Nat.le_trans h6 ?_⟩
   simp only [l1]
   rw [Nat.add_mul]
   omega
 have:=key P [] hP (fun t ht=>by cases ht)
 show Whl (mulTo [] P Q)∧l1 (mulTo [] P Q)≤l1 P*l1 Q
 simpa [l1] using this
def OneV (P : List Tm) (k:Int):Prop:=∀ t∈P,0≤t.m 0∧t.m 0≤k∧∀ i,0<i→i<8→t.m i = 0
theorem OneV.add {P Q:List Tm} {k:Int} (h:OneV P k) (h':OneV Q k):OneV (mrg P Q) k:=fun u hu=>by
 rcases mrg_mem P Q u hu with ⟨s,hs,e⟩ | ⟨s,hs,e⟩
 ·rw [← e];exact h s hs
 ·rw [← e];exact h' s hs
theorem OneV.mul {P Q:List Tm} {k k':Int} (h:OneV P k) (h':OneV Q k'):OneV (pmul P Q) (k+k'):=by
 have key:∀ (P A:List Tm),OneV P k→OneV A (k+k')→OneV (mulTo A P Q) (k+k'):=by
  intro P
  induction P with
  | nil=>intro A _ hA;exact hA
  | cons t P ih =>
   intro A hP hA
   refine ih _ (fun u hu=>hP u (by simp [hu])) (hA.add fun u hu=>?_)
   obtain ⟨s,hs,rfl⟩:=List.mem_map.1 hu
   have h1:=hP t (by simp)
   have h2:=h' s hs
   refine ⟨?_,?_,fun i hi hi8=>?_⟩
   ·show 0≤t.m 0+s.m 0;omega
   ·show t.m 0+s.m 0≤k+k';omega
   ·show t.m i+s.m i = 0
    have:=h1.2.2 i hi hi8
    have:=h2.2.2 i hi hi8
    omega
 exact key P [] h fun t ht=>by cases ht
theorem oneV_lx {a b:Nat→Int} (ha:∀ i,0<i→i<8→a i = 0) (hb:∀ i,0<i→i<8→b i = 0) (h:0<lx a b):b 0<a 0:=by
 have e:lexTo a b 0 8 = if a 0 = b 0 then lexTo a b 1 7 else if a 0<b 0 then -1 else 1:=rfl
 rw [lx_lex,lex8,e,lexTo_eq 7 1 fun i h1 h2=>by rw [ha i (by omega) (by omega),hb i (by omega) (by omega)]] at h
 split at h
 ·omega
 ·split at h <;> omega
theorem OneV.len {k : Int}:∀ {P:List Tm},Dec P→OneV P k→P ≠ []→∃ t,P.head? = some t∧(P.length:Int)≤t.m 0+1
 | [],_,_,h=>absurd rfl h
 | [t],_,h,_=>⟨t,rfl,by have:=(h t (by simp)).1;simp;omega⟩
 | t :: u :: P,hd,h,_=>by
  have hd':=List.pairwise_cons.1 hd
  obtain ⟨v,hv,hl⟩:=OneV.len (P:=u :: P) hd'.2 (fun s hs=>h s (by simp at hs ⊢;exact Or.inr hs)) (by simp)
  obtain rfl:u = v:=by simpa using hv
  have h1:=oneV_lx (h t (by simp)).2.2 (h u (by simp)).2.2 (hd'.1 u (by simp))
  refine ⟨t,rfl,?_⟩
  rw [List.length_cons]
  omega
theorem OneV.length {k : Int} {P:List Tm} (hd:Dec P) (h:OneV P k) (h0:0≤k):(P.length:Int)≤k+1:=by
 by_cases hP:P = []
 ·rw [hP];simp;omega
 ·obtain ⟨t,ht,hl⟩:=h.len hd hP
  have:=(h t (List.mem_of_mem_head? ht)).2.1
  omega
theorem l1_mem {P : List Tm} {t:Tm} (h:t∈P):t.c.num.natAbs≤l1 P:=by
 induction P with
 | nil=>cases h
 | cons u P ih =>
  simp only [l1]
  rcases List.mem_cons.1 h with rfl | h
  ·omega
  ·have:=ih h;omega
theorem Whl.psz {P : List Tm} (h:Whl P) {N:Nat} (hl:l1 P<BB ^ N) (hN:0<N):PSz P N:=fun t ht=>by
 obtain ⟨a,ha⟩:=h t ht
 have h1:=l1_mem ht
 refine ⟨len_of_lt (Nat.lt_of_le_of_lt h1 hl),?_⟩
 rw [ha,Rat.den_intCast]
 exact len_of_lt (Nat.lt_of_lt_of_le (show ((1:Nat):Int).natAbs<BB ^ 1 by decide) (Nat.pow_le_pow_right (by decide) hN))
theorem OneV.pb {P : List Tm} {k:Nat} (hc:Canon P) (h:OneV P (k:Int)) (hw:Whl P) {N:Nat} (hl:l1 P<BB ^ N) (hN:0<N):PB P (k+1) N (k:Int) :=
 ⟨hc, by have := h.length hc.1 (by omega); omega, hw.psz hl hN, fun t ht i hi => by
  have h1:=h t ht
  by_cases h0:i = 0
  ·rw [h0];exact ⟨h1.1,h1.2.1⟩
  ·rw [h1.2.2 i (by omega) hi];omega⟩
theorem rawT_l1 (r : Nat→Int):Whl (rawT 1 1 r)∧l1 (rawT 1 1 r)≤3∧OneV (rawT 1 1 r) 1:=by
 have h4:=tmod4 (r 0)
 unfold rawT sclL
 split
 ·exact ⟨fun t ht=>(by cases ht),by simp [l1],fun t ht=>by cases ht⟩
 ·have hw : Whl [⟨1, expE 1 r 1⟩] := fun t ht => ⟨1, by rw [List.mem_singleton.1 ht]; rfl⟩
  obtain ⟨h1,h2⟩:=tms_l1 (c:=((Int.tmod (r 0) 4:Int):Rat)) (m:=fun _=>0) ⟨_,rfl⟩ hw
  refine ⟨h1,?_,fun t ht=>?_⟩
  ·rw [h2,Rat.num_intCast]
   have:l1 [⟨1,expE 1 r 1⟩] = 1:=rfl
   rw [this]
   omega
  ·obtain ⟨s,hs,rfl⟩:=List.mem_map.1 ht
   rw [List.mem_singleton.1 hs]
   have he:=expE_in (deg:=1) r (by omega) 1
   have h0:=he 0 (by omega)
   refine ⟨?_,?_,fun i hi hi8=>?_⟩
   ·show 0≤0+expE 1 r 1 0;omega
   ·show 0+expE 1 r 1 0≤1;omega
   ·show 0+expE 1 r 1 i = 0
    unfold expE
    rw [if_neg (by omega)];rfl
theorem small_l1 (X : List (Nat→Int)):Whl (madeP X 1 1 2)∧l1 (madeP X 1 1 2)≤6∧OneV (madeP X 1 1 2) 1:=by
 have key:∀ (X:List (Nat→Int)) (A:List Tm) (z:Nat),Whl A→l1 A≤z→OneV A 1→Whl (X.foldl (fun a r=>mrg a (rawT 1 1 r)) A)∧l1 (X.foldl (fun a r=>mrg a (rawT 1 1 r)) A)≤z+3*X.length∧OneV (X.foldl (fun a r=>mrg a (rawT 1 1 r)) A) 1:=by
  intro X
  induction X with
  | nil=>intro A z h1 h2 h3;exact ⟨h1,by simpa using h2,h3⟩
  | cons r X ih =>
   intro A z h1 h2 h3
   obtain ⟨g1,g2,g3⟩:=rawT_l1 r
   obtain ⟨k1,k2⟩:=mrg_l1 h1 g1
   obtain ⟨m1,m2,m3⟩:=ih (mrg A (rawT 1 1 r)) (z+3) k1 (by omega) (h3.add g3)
   exact ⟨m1,Nat.le_trans m2 (by rw [List.length_cons];omega),m3⟩
 obtain ⟨h1,h2,h3⟩:=key (X.take (min X.length 2)) [] 0 (fun t ht=>by cases ht) (by simp [l1]) (fun t ht=>by cases ht)
 refine ⟨h1,Nat.le_trans h2 ?_,h3⟩
 rw [List.length_take]
 omega
theorem powF_l1 {P : List Tm} (hw:Whl P) (hl:l1 P≤6) (ho:OneV P 1):∀ k:Nat,Whl (powF P k)∧l1 (powF P k)≤6 ^ k∧OneV (powF P k) k
 | 0=>by
  have e:powF P 0 = [⟨1,fun _=>0⟩]:=constL_one
  rw [e]
  refine ⟨fun t ht=>⟨1,by rw [List.mem_singleton.1 ht];rfl⟩,by decide,fun t ht=>?_⟩
  rw [List.mem_singleton.1 ht]
  exact ⟨Int.le_refl _,Int.le_refl _,fun _ _ _=>rfl⟩
 | k+1=>by
  obtain ⟨h1,h2,h3⟩:=powF_l1 hw hl ho k
  obtain ⟨h4,h5⟩:=pmul_l1 h1 hw
  refine ⟨h4,Nat.le_trans h5 ?_,h3.mul ho⟩
  rw [Nat.pow_succ]
  exact Nat.mul_le_mul h2 hl
theorem powF_can {P : List Tm} {n N:Nat} {d:Int} (hP:PB P n N d) (h0:0≤d):∀ k:Nat,∃ n' N' d',0≤d'∧PB (powF P k) n' N' d'
 | 0=>⟨1,1,0,by omega,constL_pb (rsz_sm (by omega) (by omega)) (by omega)⟩
 | k+1=>by
  obtain ⟨n',N',d',h1,h2⟩:=powF_can hP h0 k
  exact ⟨_,_,_,by omega,h2.mul hP h1 h0⟩
theorem small_pow (X : List (Nat→Int)):PB (madeP X 1 1 2) 2 1 1∧∀ k:Nat,k≤64→PB (powF (madeP X 1 1 2) k) 65 6 64:=by
 obtain ⟨h1,h2,h3⟩:=small_l1 X
 have hp:=madeP_pb X 1 (deg:=1) 2 (by omega)
 refine ⟨OneV.pb (k:=1) hp.can h3 h1 (Nat.lt_of_le_of_lt h2 (by decide)) (by omega),fun k hk=>?_⟩
 obtain ⟨g1,g2,g3⟩:=powF_l1 h1 h2 h3 k
 obtain ⟨_,_,_,_,hc⟩:=powF_can hp (by omega) k
 have hb:l1 (powF (madeP X 1 1 2) k)<BB ^ 6:=Nat.lt_of_le_of_lt (Nat.le_trans g2 (Nat.pow_le_pow_right (by omega) hk)) (by decide)
 exact (OneV.pb hc.can g3 g1 hb (by omega)).mono (by omega) (Nat.le_refl _) (by omega)
theorem first_bad (m : Nat→Int) (P:List Tm):(∀ t∈P,In8 (add8 m t.m) 0 65535)∨∃ z,z<P.length∧(∀ k,k<z→In8 (add8 m (tAt P k).m) 0 65535)∧¬ In8 (add8 m (tAt P z).m) 0 65535:=by
 have key:∀ n,n≤P.length→(∀ k,k<n→In8 (add8 m (tAt P k).m) 0 65535)∨∃ z,z<P.length∧(∀ k,k<z→In8 (add8 m (tAt P k).m) 0 65535)∧¬ In8 (add8 m (tAt P z).m) 0 65535:=by
  intro n
  induction n with
  | zero=>exact fun _=>.inl fun k h=>absurd h (Nat.not_lt_zero k)
  | succ n ih =>
   intro hn
   rcases ih (by omega) with h | h
   ·by_cases hk:In8 (add8 m (tAt P n).m) 0 65535
    ·refine .inl fun i hi=>?_
     rcases Nat.lt_or_ge i n with h' | h'
     ·exact h i h'
     ·obtain rfl : i = n := by omega
      exact hk
    ·exact .inr ⟨n,by omega,h,hk⟩
   ·exact .inr h
 rcases key P.length (Nat.le_refl _) with h | h
 ·refine .inl fun t ht=>?_
  obtain ⟨i,hi,rfl⟩:=List.mem_iff_getElem.1 ht
  have:=h i hi
  simpa [tAt,List.getD_eq_getElem?_getD,List.getElem?_eq_getElem hi] using this
 ·exact .inr h
theorem PTimesF_abs (c : Rat) (m:Nat→Int) (P:List Tm) (N M z:Nat) (hc:c ≠ 0) (hcs:RSz c N) (hm:In8 m 0 65535) (hP:PSz P M) (hPi:PIn P 0 65535) (hz:z<P.length) (hmP:∀ k,k<z→In8 (add8 m (tAt P k).m) 0 65535) (hbad:¬ In8 (add8 m (tAt P z).m) 0 65535) (hn:P.length≤100000) (hNM:N+M≤4398046511104):Abs Tryz.prog 39 [agD (ratC c),agD (monC m),polD P] (tupD [polD [],ex (.int .i64 2)]):=by
 have hs:c.num.sign ≠ 0:=fun e=>hc (num_sign0.1 e)
 refine Ab Tryz.func39 fun s0=>?_
 rw [Tryz.ntmps39]
 apply Y1;refine AWs.bx (ao rfl) rfl rfl rfl rfl ?_;refine AWs.bx (ao rfl) rfl rfl rfl rfl ?_;refine Wa ?_;refine Wa ?_;apply Y0;apply AWp.seq;apply Y1;refine Wq Qz.ldD ?_;refine Wq (Qz.call (Sign_abs c)) ?_;refine Wq Qz.cmpF ?_;apply Y0;refine Cf ?_;apply Ys;apply Y1;refine Wm ?_;refine Wq Qz.lenN ?_;refine AWs.mk0 (ao rfl) (ao rfl) (tab_of rfl) (tab_of rfl) (by omega) (by omega) rfl rfl rfl rfl rfl rfl ?_;refine Wa ?_;apply Y0;apply AWp.seq;apply Y1;refine Wm ?_;refine Wq Qz.lenN ?_;refine Wm ?_;apply Y0;apply AWp.block
 refine AWp.loop (fun mz σ=>∃ k,k≤z∧mz = z - k∧σ = ⟨[(3,.ptr 0 0),(4,.ptr 1 0),(7,.d (ex (.int .i64 0))),(8,.own 2),(19,.d (polD P)),(20,.d (ex (.int .i64 (P.length:Nat)))),(21,.d (ex (.int .i64 (k:Nat))))],[.var 29 ((ratC c).map .d),.var 31 ((monC m).map .d),.row 33 12 ((tms c m (P.take k)).map tmC)]⟩) ?le ⟨0,by omega,rfl,rfl⟩ ?round
 case le=>exact AS.le_of (by refine Yp ?_;refine Yp ?_;refine Yd ?_;refine FrLe.cons rfl (AVle.own rfl) ?_;refine Yd ?_;refine Yd ?_;refine Yd ?_;exact FrLe.nil) (by apply Yv;apply Yv;apply Yr;exact HpLe.nil)
 case round =>
  rintro mz _ ⟨k,hk,rfl,rfl⟩
  by_cases hlt:k<z
  ·have hkl : k < P.length := by omega
   have ht:=tAt_mem hkl
   have htk:=take_tAt hkl
   apply Y1;refine Wq Qz.cmpT ?_;apply Y0;apply AWp.seq;refine Ct ?_;apply Ys;apply AWp.seq;apply AWp.block;apply Y1;refine Wq Qz.indexN ?_;refine Wq Qz.loadEf ?_;refine AWs.al (tab_of rfl) rfl rfl rfl rfl rfl rfl ?_;refine Sf ?_;apply Y0;apply Y1;refine Wq Qz.ldD ?_;refine Wq Qz.fldP ?_;refine Wq Qz.ldD ?_;refine Wq (Qz.call (mMul_abs m (tAt P k).m hm (hPi _ ht) (hmP k hlt))) ?_;refine Wm ?_;refine Wq Qz.ext ?_;refine Wq Qz.ext ?_;refine AWs.al (tab_of rfl) rfl rfl rfl rfl rfl rfl ?_;refine Sf ?_;refine Wa ?_;apply Y0;apply AWp.seq;apply Y1;refine Wm ?_;refine Wq Qz.cmpF ?_;apply Y0;refine Cf ?_;apply Ys
   refine AWp.dr' (DrawOk.self (by kernel_rfl)) [[],[],[],[(37,2)],[(36,1),(38,3)],[],[(39,4),(40,5)],[(41,6)]] [[],[],[],[2],[1,2,3],[],[1,2,3,4,5],[1,2,3,4,5,6]] rfl (by kernel_rfl) (by kernel_rfl) (by kernel_rfl) ?_
   refine Xq Qz.move ?_;refine Xq Qz.ldD ?_;refine Xq Qz.fldP ?_;refine Xq Qz.ldD ?_;refine Xq (Qz.call (Mul_abs c (tAt P k).c N M hcs (hP _ ht) hNM)) ?_;refine Xq Qz.ldD ?_;(refine Hq rfl ?_;refine Bq.build (tab_of rfl) rfl rfl rfl ?_;(repeat ((first | refine ⟨_,PartOk.ag (ah rfl),?_⟩ | refine ⟨_,PartOk.one rfl (by first | exact One.ex_ rfl | exact One.sl | exact One.ep),?_⟩);refine ⟨_,rfl,?_⟩));refine ⟨_,rfl,?_⟩;refine ⟨_,rfl,?_⟩);(refine ⟨_,HStep.q rfl (Bq.slice1 (ah rfl) (tab_of rfl) (tab_of rfl) rfl rfl rfl rfl rfl),?_⟩;refine ⟨_,rfl,?_⟩);refine ⟨_,rfl,?_⟩
   (refine AWs.app (ao rfl) rfl rfl (tab_of rfl) (tab_of rfl) rfl rfl (by simp;omega) (by simp;omega) rfl (by first | ((repeat (first | exact PlainHp.nil | refine PlainHp.var ?_ | refine PlainHp.row ?_ | refine PlainHp.dead ?_ | refine PlainHp.obj ?_ | refine PlainHp.pin rfl ?_ | refine PlainHp.varA rfl ?_));done) | fail) rfl ?_);refine Wa ?_;apply AWl.nil;apply ABlock.normal;apply Yn;apply AWp.region;refine Wq Qz.succ ?_;refine Wm ?_;apply AWl.nil
   refine ALoop.next (z - (k+1)) (by omega) ⟨k+1,by omega,rfl,rfl⟩ ?_
   exact AS.le_of (by refine Yp ?_;refine Yp ?_;refine Yd ?_;refine FrLe.cons rfl (AVle.own rfl) ?_;refine Yd ?_;refine Yd ?_;refine Yd ?_;exact FrLe.nil) (by apply Yv;apply Yv;(refine HpLe.cons (OwLe.row ((map_snoc tmC _ ⟨c*(tAt P k).c,add8 m (tAt P k).m⟩).trans (by rw [← htk];simp [tms]))) ?_);exact HpLe.nil)
  ·obtain rfl : k = z := by omega
   have ht:=tAt_mem hz
   apply Y1;refine Wq Qz.cmpT ?_;apply Y0;apply AWp.seq;refine Ct ?_;apply Ys;apply AWp.seq;apply AWp.block;apply Y1;refine Wq Qz.indexN ?_;refine Wq Qz.loadEf ?_;refine AWs.al (tab_of rfl) rfl rfl rfl rfl rfl rfl ?_;refine Sf ?_;apply Y0;apply Y1;refine Wq Qz.ldD ?_;refine Wq Qz.fldP ?_;refine Wq Qz.ldD ?_;refine Wq (Qz.call (mMulXF_abs m (tAt P k).m hm (hPi _ ht) hbad)) ?_;refine Wm ?_;refine Wq Qz.ext ?_;refine Wq Qz.ext ?_;refine AWs.al (tab_of rfl) rfl rfl rfl rfl rfl rfl ?_;refine Sf ?_;refine Wa ?_;apply Y0;apply AWp.seq;apply Y1;refine Wm ?_;refine Wq Qz.cmpT ?_;apply Y0;refine Ct ?_;apply Y1;refine Wm ?_;refine Wa ?_;refine Wa ?_;apply Y0;apply AWp.ret;apply AThen.ret;apply ABlock.ret;apply AThen.ret;apply ALoop.ret;apply ABlock.ret;apply AThen.ret
   exact Fin.ret (Rets.of2 (ResV.tmp rfl rfl) (ResV.tmp rfl rfl) (D.le.tup2 (D.le_nilP) (D.le.refl _)))
theorem RTimesF_abs (c : Rat) (m:Nat→Int) (P:List Tm) (N M z:Nat) (hc:c ≠ 0) (hcs:RSz c N) (hm:In8 m 0 65535) (hP:PSz P M) (hPi:PIn P 0 65535) (hz:z<P.length) (hmP:∀ k,k<z→In8 (add8 m (tAt P k).m) 0 65535) (hbad:¬ In8 (add8 m (tAt P z).m) 0 65535) (hn:P.length≤100000) (hNM:N+M≤4398046511103):Abs Tryz.prog 52 [agD (ratC c),agD (monC m),polD P] (tupD [polD [],ex (.int .i64 2)]):=by
 have hs:c.num.sign ≠ 0:=fun e=>hc (num_sign0.1 e)
 refine Ab Tryz.func52 fun s0=>?_
 rw [Tryz.ntmps52]
 apply Y1;refine AWs.bx (ao rfl) rfl rfl rfl rfl ?_;refine AWs.bx (ao rfl) rfl rfl rfl rfl ?_;refine Wa ?_;refine Wa ?_;apply Y0;apply Y1;refine AWs.b0 (tab_of rfl) (tab_of rfl) rfl rfl rfl rfl rfl ?_;refine Wa ?_;apply Y0;apply AWp.seq;apply Y1;refine Wq Qz.ldD ?_;refine Wq (Qz.call (RSign_abs c)) ?_;refine Wq Qz.cmpF ?_;apply Y0;refine Cf ?_;apply Ys;apply AWp.seq;apply Y1;refine Wa ?_;apply Y0;apply AWp.block
 refine AWp.loop (fun mz σ=>∃ k,k≤z∧mz = z - k∧σ = ⟨[(2,.d (polD P)),(3,.ptr 0 0),(4,.ptr 1 0),(8,.own 2),(9,.d (ex (.int .i64 (k:Nat))))],[.var 29 ((ratC c).map .d),.var 31 ((monC m).map .d),.row 33 12 ((tms c m (P.take k)).map tmC)]⟩) ?le ⟨0,by omega,rfl,rfl⟩ ?round
 case le=>exact AS.le_of (by refine Yd ?_;refine Yp ?_;refine Yp ?_;refine FrLe.cons rfl (AVle.own rfl) ?_;refine Yd ?_;exact FrLe.nil) (by apply Yv;apply Yv;apply Yr;exact HpLe.nil)
 case round =>
  rintro mz _ ⟨k,hk,rfl,rfl⟩
  by_cases hlt:k<z
  ·have hkl : k < P.length := by omega
   have ht:=tAt_mem hkl
   have htk:=take_tAt hkl
   apply AWp.seq;apply Y1;refine Wm ?_;refine Wm ?_;refine Wq Qz.lenN ?_;refine Wq Qz.cmpT ?_;apply Y0;refine Ct ?_;apply Ys;apply AWp.seq;apply AWp.block;apply AWp.seq
   refine AWp.dr' (DrawOk.float (e:=9) (by kernel_rfl) (K4 (K4 (AddE.keep (AddE.keep (AddE.keep (AddE.add (AddE.keep AddE.nil))))))) (by kernel_rfl)) [[],[],[],[(24,1),(25,2)],[(26,3)],[(27,4)],[(23,0),(28,5)],[(29,6)],[(22,7)],[(22,7)],[]] [[],[],[],[1,2],[1,2,3],[1,2,3,4],[0,1,2,3,4,5],[0,1,2,3,4,5,6],[0,1,2,3,4,5,6,7],[0,1,2,3,4,5,6,7],[]] rfl (by kernel_rfl) (by kernel_rfl) (by kernel_rfl) ?_
   refine Xq Qz.ldD ?_;refine Xq Qz.move ?_;refine Xq Qz.move ?_;refine Xq Qz.indexN ?_;refine Xq Qz.fldE ?_;refine Xq Qz.loadEf ?_;refine Xq (Qz.call (RmMul_abs m (tAt P k).m hm (hPi _ ht) (hmP k hlt))) ?_;refine Xq Qz.move ?_;refine Xq Qz.ext ?_;refine Xq Qz.ext ?_;refine Xn ?_;refine ⟨_,rfl,?_⟩
   refine Sf ?_;refine Wa ?_;apply AWl.nil;apply OnlyN.mk';apply Yn;apply AWp.seq;apply Y1;refine Wm ?_;refine Wq Qz.cmpF ?_;apply Y0;refine Cf ?_;apply Ys
   refine AWp.dr' (DrawOk.self (by kernel_rfl)) [[],[],[],[],[(36,2),(37,3)],[(38,4)],[(39,5)],[(35,1),(40,6)],[],[(41,7),(42,8)],[(43,9)]] [[],[],[],[],[2,3],[2,3,4],[2,3,4,5],[1,2,3,4,5,6],[],[1,2,3,4,5,6,7,8],[1,2,3,4,5,6,7,8,9]] rfl (by kernel_rfl) (by kernel_rfl) (by kernel_rfl) ?_
   refine Xq Qz.move ?_;refine Xq Qz.ldD ?_;refine Xq Qz.move ?_;refine Xq Qz.move ?_;refine Xq Qz.indexN ?_;refine Xq Qz.fldE ?_;refine Xq Qz.ldE ?_;refine Xq (Qz.call (RMul_abs c (tAt P k).c N M hcs (hP _ ht) hNM)) ?_;refine Xq Qz.ldD ?_;(refine Hq rfl ?_;refine Bq.build (tab_of rfl) rfl rfl rfl ?_;(repeat ((first | refine ⟨_,PartOk.ag (ah rfl),?_⟩ | refine ⟨_,PartOk.one rfl (by first | exact One.ex_ rfl | exact One.sl | exact One.ep),?_⟩);refine ⟨_,rfl,?_⟩));refine ⟨_,rfl,?_⟩;refine ⟨_,rfl,?_⟩);(refine ⟨_,HStep.q rfl (Bq.slice1 (ah rfl) (tab_of rfl) (tab_of rfl) rfl rfl rfl rfl rfl),?_⟩;refine ⟨_,rfl,?_⟩);refine ⟨_,rfl,?_⟩
   (refine AWs.app (ao rfl) rfl rfl (tab_of rfl) (tab_of rfl) rfl rfl (by simp;omega) (by simp;omega) rfl (by first | ((repeat (first | exact PlainHp.nil | refine PlainHp.var ?_ | refine PlainHp.row ?_ | refine PlainHp.dead ?_ | refine PlainHp.obj ?_ | refine PlainHp.pin rfl ?_ | refine PlainHp.varA rfl ?_));done) | fail) rfl ?_);refine Wa ?_;apply AWl.nil;apply ABlock.normal;apply Yn;apply AWp.region;refine Wm ?_;refine Wq Qz.succ ?_;refine Wa ?_;apply AWl.nil
   refine ALoop.next (z - (k+1)) (by omega) ⟨k+1,by omega,rfl,rfl⟩ ?_
   exact AS.le_of (by refine Yd ?_;refine Yp ?_;refine Yp ?_;refine FrLe.cons rfl (AVle.own rfl) ?_;refine Yd ?_;exact FrLe.nil) (by apply Yv;apply Yv;(refine HpLe.cons (OwLe.row ((map_snoc tmC _ ⟨c*(tAt P k).c,add8 m (tAt P k).m⟩).trans (by rw [← htk];simp [tms]))) ?_);exact HpLe.nil)
  ·obtain rfl : k = z := by omega
   have ht:=tAt_mem hz
   apply AWp.seq;apply Y1;refine Wm ?_;refine Wm ?_;refine Wq Qz.lenN ?_;refine Wq Qz.cmpT ?_;apply Y0;refine Ct ?_;apply Ys;apply AWp.seq;apply AWp.block;apply AWp.seq
   refine AWp.dr' (DrawOk.float (e:=9) (by kernel_rfl) (K4 (K4 (AddE.keep (AddE.keep (AddE.keep (AddE.add (AddE.keep AddE.nil))))))) (by kernel_rfl)) [[],[],[],[(24,1),(25,2)],[(26,3)],[(27,4)],[(23,0),(28,5)],[(29,6)],[(22,7)],[(22,7)],[]] [[],[],[],[1,2],[1,2,3],[1,2,3,4],[0,1,2,3,4,5],[0,1,2,3,4,5,6],[0,1,2,3,4,5,6,7],[0,1,2,3,4,5,6,7],[]] rfl (by kernel_rfl) (by kernel_rfl) (by kernel_rfl) ?_
   refine Xq Qz.ldD ?_;refine Xq Qz.move ?_;refine Xq Qz.move ?_;refine Xq Qz.indexN ?_;refine Xq Qz.fldE ?_;refine Xq Qz.loadEf ?_;refine Xq (Qz.call (RmMulF_abs m (tAt P k).m hm (hPi _ ht) hbad)) ?_;refine Xq Qz.move ?_;refine Xq Qz.ext ?_;refine Xq Qz.ext ?_;refine Xn ?_;refine ⟨_,rfl,?_⟩
   refine Sf ?_;refine Wa ?_;apply AWl.nil;apply OnlyN.mk';apply Yn;apply AWp.seq;apply Y1;refine Wm ?_;refine Wq Qz.cmpT ?_;apply Y0;refine Ct ?_;apply Y1;refine Wa ?_;refine Wa ?_;apply Y0;apply AWp.ret;apply AThen.ret;apply ABlock.ret;apply AThen.ret;apply ALoop.ret;apply ABlock.ret;apply AThen.ret
   exact Fin.ret (Rets.of2 (ResV.tmp rfl rfl) (ResV.tmp rfl rfl) (D.le.tup2 (D.le_nilP) (D.le.refl _)))
def byT (P : List Tm) (t:Tm):List Tm:=P.map fun s=>⟨s.c*t.c,add8 s.m t.m⟩
theorem byT_take {P : List Tm} {t:Tm} {k:Nat} (h:k<P.length):byT (P.take (k+1)) t = byT (P.take k) t ++ [⟨(tAt P k).c*t.c,add8 (tAt P k).m t.m⟩]:=by
 rw [← take_tAt h];simp [byT]
theorem PMul1_abs (P Q:List Tm) (hQl:Q.length = 1) (z:Nat) (hz:z≤P.length) (hmP:∀ k,k<z→In8 (add8 (tAt P k).m (tAt Q 0).m) 0 65535) (hm:In8 (tAt Q 0).m 0 65535) {n N:Nat} {d:Int} (hP:PB P n N d) (hd:d≤65535) (hQ:RSz (tAt Q 0).c N) (hn:n≤1000) (hN:N≤1000000) (R:D)
  (hR:(z<P.length∧¬ In8 (add8 (tAt P z).m (tAt Q 0).m) 0 65535∧R = tupD [polD [],ex (.int .i64 2)])∨(z = P.length∧∀ S,Canon S→Sim S (byT P (tAt Q 0))→R = tupD [polD S,ex (.int .i64 0)])) :
  Abs Tryz.prog 18 [polD P,polD Q] R:=by
 have hPl:=hP.len
 refine Ab Tryz.func18 fun s0=>?_
 rw [Tryz.ntmps18]
 apply Y1;refine Wa ?_;refine Wa ?_;apply Y0;apply Y1;refine AWs.mnew rfl rfl rfl ?_;refine Wa ?_;apply Y0;apply AWp.seq;apply Y1;refine Wm ?_;refine Wq Qz.lenN ?_;refine Wm ?_;apply Y0;apply AWp.block
 refine AWp.loop (fun mz σ=>∃ k E,k≤z∧Colld E (byT (P.take k) (tAt Q 0)) k (N+N+1) 65535∧mz = z - k∧σ = ⟨[(1,.d (polD Q)),(6,.own 0),(14,.d (polD P)),(15,.d (ex (.int .i64 (P.length:Nat)))),(16,.d (ex (.int .i64 (k:Nat))))],[.obj (mapO (entD E))]⟩) ?lea ⟨0,[],by omega,Colld.nil _ _,rfl,rfl⟩ ?rounda
 case lea=>exact AS.le_of (by refine Yd ?_;refine FrLe.cons rfl (AVle.own rfl) ?_;refine Yd ?_;refine Yd ?_;refine Yd ?_;exact FrLe.nil) (by refine HpLe.cons (OwLe.obj rfl) ?_;exact HpLe.nil)
 case rounda =>
  rintro mz _ ⟨k,E,hk,hC,rfl,rfl⟩
  by_cases hlt:k<z
  ·have hkl : k < P.length := by omega
   have ht:=tAt_mem hkl
   have hbt:=byT_take (t:=tAt Q 0) hkl
   apply Y1;refine Wq Qz.cmpT ?_;apply Y0;apply AWp.seq;refine Ct ?_;apply Ys;apply AWp.seq;apply AWp.block;apply Y1;refine Wq Qz.indexN ?_;refine Wq Qz.loadEf ?_;refine AWs.al (tab_of rfl) rfl rfl rfl rfl rfl rfl ?_;refine Sf ?_;apply Y0;apply Y1;refine Wm ?_;refine Wq Qz.lenN ?_;refine Wm ?_;apply Y0;apply AWp.block
   refine AWp.loop (fun mz σ=>∃ j E',j≤1∧(j = 0→Colld E' (byT (P.take k) (tAt Q 0)) k (N+N+1) 65535)∧(j = 1→Colld E' (byT (P.take (k+1)) (tAt Q 0)) (k+1) (N+N+1) 65535)∧mz = 1 - j∧σ = ⟨[(1,.d (polD Q)),(6,.own 0),(14,.d (polD P)),(15,.d (ex (.int .i64 (P.length:Nat)))),(16,.d (ex (.int .i64 (k:Nat)))),(8,.ptr 1 0),(20,.d (polD Q)),(21,.d (ex (.int .i64 (Q.length:Nat)))),(22,.d (ex (.int .i64 (j:Nat))))],[.obj (mapO (entD E')),.var 33 ((tmC (tAt P k)).map .d)]⟩) ?leb ⟨0,E,by omega,fun _=>hC,fun h=>by omega,rfl,rfl⟩ ?roundb
   case leb=>exact AS.le_of (by refine Yd ?_;refine FrLe.cons rfl (AVle.own rfl) ?_;refine Yd ?_;refine Yd ?_;refine Yd ?_;refine Yp ?_;refine Yd ?_;refine Yd ?_;refine Yd ?_;exact FrLe.nil) (by refine HpLe.cons (OwLe.obj rfl) ?_;apply Yv;exact HpLe.nil)
   case roundb =>
    rintro mz _ ⟨j,E',hj,h0,h1,rfl,rfl⟩
    by_cases hlj:j<1
    ·obtain rfl : j = 0 := by omega
     have hC':=h0 rfl
     have hkN:k*(N+N+1)≤1000*2000001:=Nat.mul_le_mul (by omega) (by omega)
     have hsz:=(hP.sz _ ht).mul hQ
     apply Y1;refine Wq Qz.cmpT ?_;apply Y0;apply AWp.seq;refine Ct ?_;apply Ys;apply AWp.seq;apply AWp.block;apply Y1;refine Wq Qz.indexN ?_;refine Wq Qz.loadEf ?_;refine AWs.al (tab_of rfl) rfl rfl rfl rfl rfl rfl ?_;refine Sf ?_;apply Y0;apply Y1;refine Wq Qz.fldP ?_;refine Wq Qz.ldD ?_;refine Wq Qz.fldP ?_;refine Wq Qz.ldD ?_;refine Wq (Qz.call (mMul_abs (tAt P k).m (tAt Q 0).m ((hP.ex _ ht).mono (Int.le_refl _) hd) hm (hmP k hlt))) ?_;refine Wm ?_;refine Wq Qz.ext ?_;refine Wq Qz.ext ?_;refine AWs.al (tab_of rfl) rfl rfl rfl rfl rfl rfl ?_;refine Sf ?_;refine Wa ?_;apply Y0;apply AWp.seq;apply Y1;refine Wm ?_;refine Wq Qz.cmpF ?_;apply Y0;refine Cf ?_;apply Ys
     refine AWp.dr' (DrawOk.self (by kernel_rfl)) [[],[],[(38,1)],[],[(40,3)],[(39,2),(41,4)],[]] [[],[],[1],[],[3],[1,2,3,4],[]] rfl (by kernel_rfl) (by kernel_rfl) (by kernel_rfl) ?_
     refine Xq Qz.move ?_;refine Xq Qz.fldP ?_;refine Xq Qz.ldD ?_;refine Xq Qz.fldP ?_;refine Xq Qz.ldD ?_;refine Xq (Qz.call (Mul_abs (tAt P k).c (tAt Q 0).c N N (hP.sz _ ht) hQ (by omega))) ?_;refine Xq Qz.ldD ?_;refine ⟨_,rfl,?_⟩
     skip
     refine AWs.con [0] [] (collect_con E' ((tAt P k).c*(tAt Q 0).c) (add8 (tAt P k).m (tAt Q 0).m) (k*(N+N+1)) (N+N) hC'.sz hsz (by omega)) (by first | exact Or.inl rfl | exact Or.inr ⟨by decide,rfl,by repeat (first | exact AvoidR.nil | refine AvoidR.give rfl ?_ | refine AvoidR.dead ?_ | refine AvoidR.row ?_ | refine AvoidR.obj ?_ | refine AvoidR.varD ?_ | refine AvoidR.varA rfl ?_ | refine AvoidR.pin rfl ?_)⟩) rfl rfl (by first | exact .inl ⟨rfl,rfl⟩ | exact .inr ⟨rfl,rfl⟩) (by repeat (first | exact ArgsC.nil | refine ArgsC.d rfl (D.le.refl _) ?_ | refine ArgsC.av rfl rfl ?_)) (by decide) (by repeat (first | exact SelR.nil | refine SelR.var rfl ?_ | refine SelR.obj rfl ?_ | refine SelR.row rfl ?_ | refine SelR.varA rfl rfl rfl ?_)) (by repeat (first | exact trivial | refine ⟨⟨_,_,rfl⟩,?_⟩)) rfl ?_
     rintro _ _ ⟨E2,hc2,rfl,rfl⟩
     refine ⟨_,_,_,(by first | exact AVRen.d | exact AVRen.own rfl | exact AVRen.ptr rfl | exact AVRen.fn rfl),(by repeat (first | exact SetR.nil | (apply SetR.cons;(first | exact OwRen.dead | exact OwRen.varD | exact OwRen.obj | exact OwRen.row | exact OwRen.varA rfl);exact rfl))),(by repeat (first | exact AppR.nil | (apply AppR.cons;(first | exact OwRen.dead | exact OwRen.varD | exact OwRen.obj | exact OwRen.row | exact OwRen.varA rfl);exact rfl))),?_⟩
     apply AWl.nil;apply ABlock.normal;apply Yn;apply AWp.region;refine Wq Qz.succ ?_;refine Wm ?_;apply AWl.nil
     refine ALoop.next 0 (by omega) ⟨1,E2,by omega,fun h=>by omega,fun _=>?_,rfl,rfl⟩ ?_
     ·have:=hC'.step hc2 hsz (Nat.le_refl _) (hmP k hlt)
      rw [← hbt] at this
      exact this
     exact AS.le_of (by refine Yd ?_;refine FrLe.cons rfl (AVle.own rfl) ?_;refine Yd ?_;refine Yd ?_;refine Yd ?_;refine Yp ?_;refine Yd ?_;refine Yd ?_;refine Yd ?_;exact FrLe.nil) (by refine HpLe.cons (OwLe.obj rfl) ?_;apply Yv;exact HpLe.nil)
    ·obtain rfl : j = 1 := by omega
     have hC':=h1 rfl
     apply Y1;refine Wq Qz.cmpF ?_;apply Y0;apply AWp.seq;refine Cf ?_;apply AWp.exit;apply AThen.exit;apply ALoop.exit;apply ABlock.hit;apply ABlock.normal;apply Yn;apply AWp.region;refine Wq Qz.succ ?_;refine Wm ?_;apply AWl.nil
     refine ALoop.next (z - (k+1)) (by omega) ⟨k+1,E',by omega,hC',rfl,rfl⟩ ?_
     exact AS.le_of (by refine Yd ?_;refine FrLe.cons rfl (AVle.own rfl) ?_;refine Yd ?_;refine Yd ?_;refine Yd ?_;exact FrLe.nil) (by refine HpLe.cons (OwLe.obj rfl) ?_;exact HpLe.nil)
  ·obtain rfl : k = z := by omega
   rcases hR with ⟨hlt,hbad,rfl⟩ | ⟨rfl,hS⟩
   ·have ht:=tAt_mem hlt
    apply Y1;refine Wq Qz.cmpT ?_;apply Y0;apply AWp.seq;refine Ct ?_;apply Ys;apply AWp.seq;apply AWp.block;apply Y1;refine Wq Qz.indexN ?_;refine Wq Qz.loadEf ?_;refine AWs.al (tab_of rfl) rfl rfl rfl rfl rfl rfl ?_;refine Sf ?_;apply Y0;apply Y1;refine Wm ?_;refine Wq Qz.lenN ?_;refine Wm ?_;apply Y0;apply AWp.block
    refine AWp.loop (fun mz σ=>mz = 0∧σ = ⟨[(1,.d (polD Q)),(6,.own 0),(14,.d (polD P)),(15,.d (ex (.int .i64 (P.length:Nat)))),(16,.d (ex (.int .i64 (k:Nat)))),(8,.ptr 1 0),(20,.d (polD Q)),(21,.d (ex (.int .i64 (Q.length:Nat)))),(22,.d (ex (.int .i64 ((0:Nat):Int))))],[.obj (mapO (entD E)),.var 33 ((tmC (tAt P k)).map .d)]⟩) ?lec ⟨rfl,rfl⟩ ?roundc
    case lec=>exact AS.le_of (by refine Yd ?_;refine FrLe.cons rfl (AVle.own rfl) ?_;refine Yd ?_;refine Yd ?_;refine Yd ?_;refine Yp ?_;refine Yd ?_;refine Yd ?_;refine Yd ?_;exact FrLe.nil) (by refine HpLe.cons (OwLe.obj rfl) ?_;apply Yv;exact HpLe.nil)
    case roundc =>
     rintro mz _ ⟨rfl,rfl⟩
     apply Y1;refine Wq Qz.cmpT ?_;apply Y0;apply AWp.seq;refine Ct ?_;apply Ys;apply AWp.seq;apply AWp.block;apply Y1;refine Wq Qz.indexN ?_;refine Wq Qz.loadEf ?_;refine AWs.al (tab_of rfl) rfl rfl rfl rfl rfl rfl ?_;refine Sf ?_;apply Y0;apply Y1;refine Wq Qz.fldP ?_;refine Wq Qz.ldD ?_;refine Wq Qz.fldP ?_;refine Wq Qz.ldD ?_;refine Wq (Qz.call (mMulXF_abs (tAt P k).m (tAt Q 0).m ((hP.ex _ ht).mono (Int.le_refl _) hd) hm hbad)) ?_;refine Wm ?_;refine Wq Qz.ext ?_;refine Wq Qz.ext ?_;refine AWs.al (tab_of rfl) rfl rfl rfl rfl rfl rfl ?_;refine Sf ?_;refine Wa ?_;apply Y0;apply AWp.seq;apply Y1;refine Wm ?_;refine Wq Qz.cmpT ?_;apply Y0;refine Ct ?_;apply Y1;refine Wm ?_;refine Wa ?_;refine Wa ?_;apply Y0;apply AWp.ret;apply AThen.ret;apply ABlock.ret;apply AThen.ret;apply ALoop.ret;apply ABlock.ret;apply ABlock.ret;apply AThen.ret;apply ALoop.ret;apply ABlock.ret;apply AThen.ret
     exact Fin.ret (Rets.of2 (ResV.tmp rfl rfl) (ResV.tmp rfl rfl) (D.le.tup2 (D.le_nilP) (D.le.refl _)))
   ·have hE:=hC.len
    apply Y1;refine Wq Qz.cmpF ?_;apply Y0;apply AWp.seq;refine Cf ?_;apply AWp.exit;apply AThen.exit;apply ALoop.exit;apply ABlock.hit;apply Yn;apply Y1;refine Wm ?_
    refine AWs.con [0] [] (sorted_con E (by omega)) (by first | exact Or.inl rfl | exact Or.inr ⟨by decide,rfl,by repeat (first | exact AvoidR.nil | refine AvoidR.give rfl ?_ | refine AvoidR.dead ?_ | refine AvoidR.row ?_ | refine AvoidR.obj ?_ | refine AvoidR.varD ?_ | refine AvoidR.varA rfl ?_ | refine AvoidR.pin rfl ?_)⟩) rfl rfl (by first | exact .inl ⟨rfl,rfl⟩ | exact .inr ⟨rfl,rfl⟩) (by repeat (first | exact ArgsC.nil | refine ArgsC.d rfl (D.le.refl _) ?_ | refine ArgsC.av rfl rfl ?_)) (by decide) (by repeat (first | exact SelR.nil | refine SelR.var rfl ?_ | refine SelR.obj rfl ?_ | refine SelR.row rfl ?_ | refine SelR.varA rfl rfl rfl ?_)) (by repeat (first | exact trivial | refine ⟨⟨_,_,rfl⟩,?_⟩)) rfl ?_
    rintro _ _ ⟨S,hS1,rfl,rfl⟩
    refine ⟨_,_,_,(by first | exact AVRen.d | exact AVRen.own rfl | exact AVRen.ptr rfl | exact AVRen.fn rfl),(by repeat (first | exact SetR.nil | (apply SetR.cons;(first | exact OwRen.dead | exact OwRen.varD | exact OwRen.obj | exact OwRen.row | exact OwRen.varA rfl);exact rfl))),(by repeat (first | exact AppR.nil | (apply AppR.cons;(first | exact OwRen.dead | exact OwRen.varD | exact OwRen.obj | exact OwRen.row | exact OwRen.varA rfl);exact rfl))),?_⟩
    refine Wa ?_;refine Wa ?_;apply Y0;apply AWp.ret
    have hS2:=hS S hS1.1 (hS1.2.1.trans (by have:=hC.sim;rwa [List.take_length] at this))
    subst hS2
    exact Fin.ret (Rets.of2 (ResV.tmp rfl rfl) (ResV.tmp rfl rfl) (D.le.tup2 (D.le.refl _) (D.le.refl _)))
def rwsD (T : Nat) (L:List (Nat × List (Nat→Int))):D:=slD T 1 (L.map fun p=>[r5D p.1 p.2])
def rwAt (L : List (Nat × List (Nat→Int))) (k:Nat):Nat × List (Nat→Int):=L.getD k (0,[])
def Raws8 (L : List (Nat × List (Nat→Int))):Prop:=∀ p∈L,Raw8 p.2
def putB (L : List (Nat × List (Nat→Int))) (i:Nat):List Tm:=if i<L.length∧i<4 then madeP (rwAt L i).2 3 2 3 else [⟨1,unitE i⟩]
def putK8 (L : List (Nat × List (Nat→Int))) (k:Nat):Nat→List Tm:=fun j=>if j<k then putB L j else []
end Go.Proofs.YteicdddphdomkaaGreat
