/- Part 18 of the proof of polynomialPermutes_holds. No condition. -/
import Derived.Test.YteicdddphdomkaaGreatPm17
set_option linter.unusedSimpArgs false
set_option linter.unusedVariables false
set_option maxRecDepth 100000
set_option maxHeartbeats 4000000
namespace Go.Proofs.YteicdddphdomkaaGreat
open Go.RowKit
def QOk (b : Bool) (l:List Nat) (b':Bool) (l':List Nat):Prop:=∃ q:Rat,b = decide (q.num<0)∧l = digs q.num.natAbs∧b' = decide ((q.den:Int)<0)∧l' = digs (q.den:Int).natAbs
theorem int_inj {x y:Int} (h:decide (x<0) = decide (y<0)) (h':digs x.natAbs = digs y.natAbs):x = y:=by
 have h1:x.natAbs = y.natAbs:=by rw [← val_digs x.natAbs,h',val_digs]
 have h2:(x<0)↔(y<0):=by simpa using h
 omega
theorem QOk_int (x y:Int):QOk (decide (x<0)) (digs x.natAbs) (decide (y<0)) (digs y.natAbs)↔0<y∧Nat.gcd x.natAbs y.natAbs = 1:=by
 constructor
 ·rintro ⟨q,h1,h2,h3,h4⟩
  have e1:=int_inj h1 h2
  have e2:=int_inj h3 h4
  subst e1;subst e2
  exact ⟨by have:=q.den_pos;omega,q.reduced⟩
 ·rintro ⟨h1,h2⟩
  refine ⟨⟨x,y.natAbs,by omega,h2⟩,rfl,rfl,?_,?_⟩
  ·show decide (y<0) = decide (((y.natAbs:Nat):Int)<0)
   rw [decide_eq_false (show ¬ y<0 by omega),decide_eq_false (by omega)]
  ·show digs y.natAbs = digs ((y.natAbs:Nat):Int).natAbs
   rfl
theorem QOk_ok {b : Bool} {l:List Nat} {b':Bool} {l':List Nat} (h:QOk b l b' l'):intOk b l = true∧intOk b' l' = true:=by
 obtain ⟨q,rfl,rfl,rfl,rfl⟩:=h
 exact ⟨int_intOk _,int_intOk _⟩
def rawC (b : Bool) (l:List Nat) (b':Bool) (l':List Nat):List D:=[ex (.bool b),wD l,ex (.bool b'),wD l']
open Classical in
theorem rValid_abs (b : Bool) (l:List Nat) (b':Bool) (l':List Nat) (hs:Small l) (hs':Small l') (hn:l.length≤1000000000) (hn':l'.length≤1000000000):Abs Tryz.prog 67 [agD (rawC b l b' l')] (ex (.bool (decide (QOk b l b' l')))):=by
 have c1:=iValid_abs b l hn
 have c2:=iValid_abs b' l' hn'
 cases h1:intOk b l with
 | false =>
  have hq:¬ QOk b l b' l':=fun h=>by rw [(QOk_ok h).1] at h1;cases h1
  rw [h1] at c1
  rw [decide_eq_false hq]
  refine Ab Tryz.func67 fun s0=>?_
  rw [Tryz.ntmps67]
  apply Y1;refine AWs.bx (ao rfl) rfl rfl rfl rfl ?_;refine Wa ?_;apply Y0;apply AWp.seq;apply Y1;refine Wq Qz.fldP ?_;refine Wq Qz.ldD ?_;refine Wq (Qz.call (c1)) ?_;refine Wq Qz.not ?_;refine Wm ?_;refine Ws ?_;refine Ws ?_;refine Ws ?_;refine Ws ?_;refine Wq Qz.pickT ?_;refine Wm ?_;refine Ws ?_;refine Ws ?_;refine Ws ?_;refine Ws ?_;refine Wq Qz.pickT ?_;apply Y0;refine Ct ?_;apply Y1;refine Wa ?_;apply Y0;apply AWp.ret;apply AThen.ret
  exact Yf
 | true =>
  rw [h1] at c1
  cases h2:intOk b' l' with
  | false =>
   have hq:¬ QOk b l b' l':=fun h=>by rw [(QOk_ok h).2] at h2;cases h2
   rw [h2] at c2
   rw [decide_eq_false hq]
   refine Ab Tryz.func67 fun s0=>?_
   rw [Tryz.ntmps67]
   apply Y1;refine AWs.bx (ao rfl) rfl rfl rfl rfl ?_;refine Wa ?_;apply Y0;apply AWp.seq;apply Y1;refine Wq Qz.fldP ?_;refine Wq Qz.ldD ?_;refine Wq (Qz.call (c1)) ?_;refine Wq Qz.not ?_;refine Wm ?_;refine Wg Qz.fldP ?_;refine Wg Qz.ldD ?_;refine Wg (Qz.call (c2)) ?_;refine Wg Qz.not ?_;refine Wq Qz.pickF ?_;refine Wm ?_;refine Ws ?_;refine Ws ?_;refine Ws ?_;refine Ws ?_;refine Wq Qz.pickT ?_;apply Y0;refine Ct ?_;apply Y1;refine Wa ?_;apply Y0;apply AWp.ret;apply AThen.ret
   exact Yf
  | true =>
   rw [h2] at c2
   obtain ⟨x,rfl,rfl⟩:=intOk_int hs h1
   obtain ⟨y,rfl,rfl⟩:=intOk_int hs' h2
   by_cases hy:0<y
   ·have hsg:y.sign = 1:=Int.sign_eq_one_of_pos hy
    have c3:=isOne_abs y
    by_cases hy1:y = 1
    ·rw [decide_eq_true hy1] at c3
     rw [decide_eq_true ((QOk_int x y).2 ⟨hy,by subst hy1;exact Nat.gcd_one_right _⟩)]
     refine Ab Tryz.func67 fun s0=>?_
     rw [Tryz.ntmps67]
     apply Y1;refine AWs.bx (ao rfl) rfl rfl rfl rfl ?_;refine Wa ?_;apply Y0;apply AWp.seq;apply Y1;refine Wq Qz.fldP ?_;refine Wq Qz.ldD ?_;refine Wq (Qz.call (c1)) ?_;refine Wq Qz.not ?_;refine Wm ?_;refine Wg Qz.fldP ?_;refine Wg Qz.ldD ?_;refine Wg (Qz.call (c2)) ?_;refine Wg Qz.not ?_;refine Wq Qz.pickF ?_;refine Wm ?_;refine Wg Qz.fldP ?_;refine Wg Qz.ldD ?_;refine Wg (Qz.call (sgn_abs y)) ?_;refine Wg Qz.cmpF ?_;refine Wq Qz.pickF ?_;apply Y0;refine Cf ?_;apply Ys;apply Y1;refine Wq Qz.fldP ?_;refine Wq Qz.ldD ?_;refine Wq (Qz.call (c3)) ?_;refine Wm ?_;refine Ws ?_;refine Ws ?_;refine Ws ?_;refine Ws ?_;refine Ws ?_;refine Ws ?_;refine Wq Qz.pickT ?_;refine Wa ?_;apply Y0;apply AWp.ret
     exact Yf
    ·rw [decide_eq_false hy1] at c3
     have hg:decide (QOk (decide (x<0)) (digs x.natAbs) (decide (y<0)) (digs y.natAbs)) = decide (((Nat.gcd x.natAbs y.natAbs:Nat):Int) = 1):=by
      refine decide_eq_decide.2 ((QOk_int x y).trans ⟨fun h=>by omega,fun h=>⟨hy,by omega⟩⟩)
     rw [hg]
     refine Ab Tryz.func67 fun s0=>?_
     rw [Tryz.ntmps67]
     apply Y1;refine AWs.bx (ao rfl) rfl rfl rfl rfl ?_;refine Wa ?_;apply Y0;apply AWp.seq;apply Y1;refine Wq Qz.fldP ?_;refine Wq Qz.ldD ?_;refine Wq (Qz.call (c1)) ?_;refine Wq Qz.not ?_;refine Wm ?_;refine Wg Qz.fldP ?_;refine Wg Qz.ldD ?_;refine Wg (Qz.call (c2)) ?_;refine Wg Qz.not ?_;refine Wq Qz.pickF ?_;refine Wm ?_;refine Wg Qz.fldP ?_;refine Wg Qz.ldD ?_;refine Wg (Qz.call (sgn_abs y)) ?_;refine Wg Qz.cmpF ?_;refine Wq Qz.pickF ?_;apply Y0;refine Cf ?_;apply Ys;apply Y1;refine Wq Qz.fldP ?_;refine Wq Qz.ldD ?_;refine Wq (Qz.call (c3)) ?_;refine Wm ?_;refine Wg Qz.fldP ?_;refine Wg Qz.ldD ?_;refine Wg Qz.fldP ?_;refine Wg Qz.ldD ?_;refine Wg (Qz.call (gcd_abs x y (by omega) (by omega))) ?_;refine Wg (Qz.call (isOne_abs (Nat.gcd x.natAbs y.natAbs:Nat))) ?_;refine Wq Qz.pickF ?_;refine Wa ?_;apply Y0;apply AWp.ret
     exact Yf
   ·have hsg : y.sign ≤ 0 := Int.sign_nonpos_iff.2 (by omega)
    rw [decide_eq_false fun h=>hy ((QOk_int x y).1 h).1]
    refine Ab Tryz.func67 fun s0=>?_
    rw [Tryz.ntmps67]
    apply Y1;refine AWs.bx (ao rfl) rfl rfl rfl rfl ?_;refine Wa ?_;apply Y0;apply AWp.seq;apply Y1;refine Wq Qz.fldP ?_;refine Wq Qz.ldD ?_;refine Wq (Qz.call (c1)) ?_;refine Wq Qz.not ?_;refine Wm ?_;refine Wg Qz.fldP ?_;refine Wg Qz.ldD ?_;refine Wg (Qz.call (c2)) ?_;refine Wg Qz.not ?_;refine Wq Qz.pickF ?_;refine Wm ?_;refine Wg Qz.fldP ?_;refine Wg Qz.ldD ?_;refine Wg (Qz.call (sgn_abs y)) ?_;refine Wg Qz.cmpT ?_;refine Wq Qz.pickF ?_;apply Y0;refine Ct ?_;apply Y1;refine Wa ?_;apply Y0;apply AWp.ret;apply AThen.ret
    exact Yf
def cmpS (b : Bool) (m:Nat) (b':Bool) (m':Nat):Int:=match b,b' with
 | true,true=>cmpN m' m
 | true,false=>-1
 | false,true=>1
 | false,false=>cmpN m m'
theorem RiCmp_raw (b b':Bool) (m m':Nat):Abs Tryz.prog 89 [agD [ex (.bool b),wD (digs m)],agD [ex (.bool b'),wD (digs m')]] (ex (.int .i64 (cmpS b m b' m'))):=by
 cases b <;> cases b'
 ·refine Ab Tryz.func89 fun s0 => ?_
  rw [Tryz.ntmps89]
  apply Y1;refine AWs.bx (ao rfl) rfl rfl rfl rfl ?_;refine AWs.bx (ao rfl) rfl rfl rfl rfl ?_;refine Wa ?_;apply Y0;apply AWp.seq;apply Y1;refine Wq Qz.fldP ?_;refine Wq Qz.ldD1 ?_;refine Wm ?_;refine Ws ?_;refine Ws ?_;refine Ws ?_;refine Wq Qz.pickF ?_;apply Y0;refine Cf ?_;apply Ys;apply AWp.seq;apply Y1;refine Wq Qz.fldP ?_;refine Wq Qz.ldD1 ?_;refine Wq Qz.not ?_;refine Wm ?_;refine Wg Qz.fldP ?_;refine Wg Qz.ldD1 ?_;refine Wq Qz.pickT ?_;apply Y0;refine Cf ?_;apply Ys;apply AWp.seq;apply Y1;refine Wq Qz.fldP ?_;refine Wq Qz.ldD1 ?_;apply Y0;refine Cf ?_;apply Ys;apply Y1;refine Wq Qz.fldP ?_;refine Wq Qz.ldD1 ?_;refine Wq Qz.fldP ?_;refine Wq Qz.ldD1 ?_;refine Wq (Qz.call (Rcompared_abs m m')) ?_;refine Wa ?_;apply Y0;apply AWp.ret
  exact Yf
 ·refine Ab Tryz.func89 fun s0 => ?_
  rw [Tryz.ntmps89]
  apply Y1;refine AWs.bx (ao rfl) rfl rfl rfl rfl ?_;refine AWs.bx (ao rfl) rfl rfl rfl rfl ?_;refine Wa ?_;apply Y0;apply AWp.seq;apply Y1;refine Wq Qz.fldP ?_;refine Wq Qz.ldD1 ?_;refine Wm ?_;refine Ws ?_;refine Ws ?_;refine Ws ?_;refine Wq Qz.pickF ?_;apply Y0;refine Cf ?_;apply Ys;apply AWp.seq;apply Y1;refine Wq Qz.fldP ?_;refine Wq Qz.ldD1 ?_;refine Wq Qz.not ?_;refine Wm ?_;refine Wg Qz.fldP ?_;refine Wg Qz.ldD1 ?_;refine Wq Qz.pickT ?_;apply Y0;refine Ct ?_;apply Y1;refine Wa ?_;apply Y0;apply AWp.ret;apply AThen.ret
  exact Yf
 ·refine Ab Tryz.func89 fun s0 => ?_
  rw [Tryz.ntmps89]
  apply Y1;refine AWs.bx (ao rfl) rfl rfl rfl rfl ?_;refine AWs.bx (ao rfl) rfl rfl rfl rfl ?_;refine Wa ?_;apply Y0;apply AWp.seq;apply Y1;refine Wq Qz.fldP ?_;refine Wq Qz.ldD1 ?_;refine Wm ?_;refine Wg Qz.fldP ?_;refine Wg Qz.ldD1 ?_;refine Wg Qz.not ?_;refine Wq Qz.pickT ?_;apply Y0;refine Ct ?_;apply Y1;refine Wa ?_;apply Y0;apply AWp.ret;apply AThen.ret
  exact Yf
 ·refine Ab Tryz.func89 fun s0 => ?_
  rw [Tryz.ntmps89]
  apply Y1;refine AWs.bx (ao rfl) rfl rfl rfl rfl ?_;refine AWs.bx (ao rfl) rfl rfl rfl rfl ?_;refine Wa ?_;apply Y0;apply AWp.seq;apply Y1;refine Wq Qz.fldP ?_;refine Wq Qz.ldD1 ?_;refine Wm ?_;refine Wg Qz.fldP ?_;refine Wg Qz.ldD1 ?_;refine Wg Qz.not ?_;refine Wq Qz.pickT ?_;apply Y0;refine Cf ?_;apply Ys;apply AWp.seq;apply Y1;refine Wq Qz.fldP ?_;refine Wq Qz.ldD1 ?_;refine Wq Qz.not ?_;refine Wm ?_;refine Ws ?_;refine Ws ?_;refine Wq Qz.pickF ?_;apply Y0;refine Cf ?_;apply Ys;apply AWp.seq;apply Y1;refine Wq Qz.fldP ?_;refine Wq Qz.ldD1 ?_;apply Y0;refine Ct ?_;apply Y1;refine Wq Qz.fldP ?_;refine Wq Qz.ldD1 ?_;refine Wq Qz.fldP ?_;refine Wq Qz.ldD1 ?_;refine Wq (Qz.call (Rcompared_abs m' m)) ?_;refine Wa ?_;apply Y0;apply AWp.ret;apply AThen.ret
  exact Yf
theorem cmpN_sign (x y:Nat):cmpN x y = ((x:Int) - y).sign:=by
 unfold cmpN
 rcases Nat.lt_trichotomy x y with h | h | h
 ·rw [if_pos h,Int.sign_eq_neg_one_of_neg (by omega)]
 ·subst h;simp
 ·rw [if_neg (by omega),if_pos h,Int.sign_eq_one_of_pos (by omega)]
theorem cmpS_sign (x y:Int):cmpS (decide (x<0)) x.natAbs (decide (y<0)) y.natAbs = (x - y).sign:=by
 by_cases hx:x<0 <;> by_cases hy:y<0
 ·rw [decide_eq_true hx,decide_eq_true hy]
  show cmpN _ _ = _
  rw [cmpN_sign];congr 1;omega
 ·rw [decide_eq_true hx,decide_eq_false hy]
  show (-1:Int) = _
  rw [Int.sign_eq_neg_one_of_neg (by omega)]
 ·rw [decide_eq_false hx,decide_eq_true hy]
  show (1:Int) = _
  rw [Int.sign_eq_one_of_pos (by omega)]
 ·rw [decide_eq_false hx,decide_eq_false hy]
  show cmpN _ _ = _
  rw [cmpN_sign];congr 1;omega
theorem RiCmp_abs (x y:Int):Abs Tryz.prog 89 [agD (intC x),agD (intC y)] (ex (.int .i64 (x - y).sign)):=by
 rw [← cmpS_sign]
 exact RiCmp_raw _ _ _ _
theorem sign_one {g : Nat} (h:0<g):(((g:Int) - 1).sign == 0) = decide (g = 1):=by
 by_cases h1:g = 1
 ·subst h1;rfl
 ·rw [decide_eq_false h1,Int.sign_eq_one_of_pos (by omega)];rfl
open Classical in
theorem RrValid_abs (b : Bool) (l:List Nat) (b':Bool) (l':List Nat) (hs:Small l) (hs':Small l') (hn:l.length≤1000000000) (hn':l'.length≤1000000000):Abs Tryz.prog 28 [agD (rawC b l b' l')] (ex (.bool (decide (QOk b l b' l')))):=by
 have c1:=RiValid_abs b l hn
 have c2:=RiValid_abs b' l' hn'
 cases h1:intOk b l with
 | false =>
  have hq:¬ QOk b l b' l':=fun h=>by rw [(QOk_ok h).1] at h1;cases h1
  rw [h1] at c1
  rw [decide_eq_false hq]
  refine Ab Tryz.func28 fun s0=>?_
  rw [Tryz.ntmps28]
  apply Y1;refine AWs.bx (ao rfl) rfl rfl rfl rfl ?_;refine Wa ?_;apply Y0;apply AWp.seq;apply Y1;refine Wq Qz.fldP ?_;refine Wq Qz.ldD ?_;refine Wq (Qz.call (c1)) ?_;refine Wq Qz.not ?_;refine Wm ?_;refine Ws ?_;refine Ws ?_;refine Ws ?_;refine Ws ?_;refine Wq Qz.pickT ?_;refine Wm ?_;refine Ws ?_;refine Ws ?_;refine Ws ?_;refine Ws ?_;refine Wq Qz.pickT ?_;apply Y0;refine Ct ?_;apply Y1;refine Wa ?_;apply Y0;apply AWp.ret;apply AThen.ret
  exact Yf
 | true =>
  rw [h1] at c1
  cases h2:intOk b' l' with
  | false =>
   have hq:¬ QOk b l b' l':=fun h=>by rw [(QOk_ok h).2] at h2;cases h2
   rw [h2] at c2
   rw [decide_eq_false hq]
   refine Ab Tryz.func28 fun s0=>?_
   rw [Tryz.ntmps28]
   apply Y1;refine AWs.bx (ao rfl) rfl rfl rfl rfl ?_;refine Wa ?_;apply Y0;apply AWp.seq;apply Y1;refine Wq Qz.fldP ?_;refine Wq Qz.ldD ?_;refine Wq (Qz.call (c1)) ?_;refine Wq Qz.not ?_;refine Wm ?_;refine Wg Qz.fldP ?_;refine Wg Qz.ldD ?_;refine Wg (Qz.call (c2)) ?_;refine Wg Qz.not ?_;refine Wq Qz.pickF ?_;refine Wm ?_;refine Ws ?_;refine Ws ?_;refine Ws ?_;refine Ws ?_;refine Wq Qz.pickT ?_;apply Y0;refine Ct ?_;apply Y1;refine Wa ?_;apply Y0;apply AWp.ret;apply AThen.ret
   exact Yf
  | true =>
   rw [h2] at c2
   obtain ⟨x,rfl,rfl⟩:=intOk_int hs h1
   obtain ⟨y,rfl,rfl⟩:=intOk_int hs' h2
   by_cases hy:0<y
   ·have hsg:y.sign = 1:=Int.sign_eq_one_of_pos hy
    have hg:decide (QOk (decide (x<0)) (digs x.natAbs) (decide (y<0)) (digs y.natAbs)) = ((((Nat.gcd x.natAbs y.natAbs:Nat):Int) - 1).sign == 0):=by
     have hpos:0<Nat.gcd x.natAbs y.natAbs:=Nat.gcd_pos_of_pos_right _ (by omega)
     rw [sign_one hpos]
     exact decide_eq_decide.2 ((QOk_int x y).trans ⟨fun h=>h.2,fun h=>⟨hy,h⟩⟩)
    rw [hg]
    refine Ab Tryz.func28 fun s0=>?_
    rw [Tryz.ntmps28]
    apply Y1;refine AWs.bx (ao rfl) rfl rfl rfl rfl ?_;refine Wa ?_;apply Y0;apply AWp.seq;apply Y1;refine Wq Qz.fldP ?_;refine Wq Qz.ldD ?_;refine Wq (Qz.call (c1)) ?_;refine Wq Qz.not ?_;refine Wm ?_;refine Wg Qz.fldP ?_;refine Wg Qz.ldD ?_;refine Wg (Qz.call (c2)) ?_;refine Wg Qz.not ?_;refine Wq Qz.pickF ?_;refine Wm ?_;refine Wg Qz.fldP ?_;refine Wg Qz.ldD ?_;refine Wg (Qz.call (ISign_abs y)) ?_;refine Wg Qz.cmpF ?_;refine Wq Qz.pickF ?_;apply Y0;refine Cf ?_;apply Ys;apply Y1;refine Wq Qz.fldP ?_;refine Wq Qz.ldD ?_;refine Wq Qz.fldP ?_;refine Wq Qz.ldD ?_;refine Wq (Qz.call (Rgcd_abs x y (by omega) (by omega))) ?_;refine Wq (Qz.call (Rof_abs 1 (by omega) (by omega))) ?_;refine Wq (Qz.call (RiCmp_abs (Nat.gcd x.natAbs y.natAbs:Nat) 1)) ?_;refine Wq Qz.cmp ?_;refine Wa ?_;apply Y0;apply AWp.ret
    exact Yf
   ·have hsg : y.sign ≤ 0 := Int.sign_nonpos_iff.2 (by omega)
    rw [decide_eq_false fun h=>hy ((QOk_int x y).1 h).1]
    refine Ab Tryz.func28 fun s0=>?_
    rw [Tryz.ntmps28]
    apply Y1;refine AWs.bx (ao rfl) rfl rfl rfl rfl ?_;refine Wa ?_;apply Y0;apply AWp.seq;apply Y1;refine Wq Qz.fldP ?_;refine Wq Qz.ldD ?_;refine Wq (Qz.call (c1)) ?_;refine Wq Qz.not ?_;refine Wm ?_;refine Wg Qz.fldP ?_;refine Wg Qz.ldD ?_;refine Wg (Qz.call (c2)) ?_;refine Wg Qz.not ?_;refine Wq Qz.pickF ?_;refine Wm ?_;refine Wg Qz.fldP ?_;refine Wg Qz.ldD ?_;refine Wg (Qz.call (ISign_abs y)) ?_;refine Wg Qz.cmpT ?_;refine Wq Qz.pickF ?_;apply Y0;refine Ct ?_;apply Y1;refine Wa ?_;apply Y0;apply AWp.ret;apply AThen.ret
    exact Yf
structure RTm where
 b:Bool
 l:List Nat
 b':Bool
 l':List Nat
 m:Nat→Int
instance : Inhabited RTm:=⟨⟨false,[],false,[],fun _=>0⟩⟩
def rtC (r : RTm):List D:=rawC r.b r.l r.b' r.l' ++ monC r.m
def rtD (L : List RTm):D:=slD 33 12 (L.map rtC)
def rtAt (L : List RTm) (k:Nat):RTm:=L.getD k default
def tOk (r : RTm):Prop:=QOk r.b r.l r.b' r.l'∧r.l ≠ []∧In8 r.m 0 65535
def ValidL (L : List RTm):Prop:=∀ k,k<L.length→tOk (rtAt L k)∧(0<k→0<lex8 (rtAt L (k - 1)).m (rtAt L k).m)
def rtSz (L : List RTm):Prop:=∀ r∈L,Small r.l∧Small r.l'∧r.l.length≤1000000000∧r.l'.length≤1000000000
theorem rtAt_mem {L : List RTm} {k:Nat} (h:k<L.length):rtAt L k∈L:=by
 unfold rtAt
 rw [List.getD_eq_getElem?_getD,List.getElem?_eq_getElem h]
 exact List.getElem_mem h
open Classical in
theorem PValid_abs (L : List RTm) (hz:rtSz L) (hn:L.length≤1000000):Abs Tryz.prog 14 [rtD L] (ex (.bool (decide (ValidL L)))):=by
 refine Ab Tryz.func14 fun s0=>?_
 rw [Tryz.ntmps14]
 apply Y1;refine Wa ?_;apply Y0;apply AWp.seq;apply Y1;refine Wm ?_;refine Wq Qz.lenN ?_;refine Wm ?_;apply Y0;apply AWp.block
 refine AWp.loop (fun mz σ=>∃ k,k≤L.length∧mz = L.length - k∧(∀ j,j<k→tOk (rtAt L j)∧(0<j→0<lex8 (rtAt L (j - 1)).m (rtAt L j).m))∧σ = ⟨[(0,.d (rtD L)),(5,.d (rtD L)),(6,.d (ex (.int .i64 (L.length:Nat)))),(7,.d (ex (.int .i64 (k:Nat))))],[]⟩) ?le ⟨0,by omega,rfl,fun j hj=>absurd hj (Nat.not_lt_zero j),rfl⟩ ?round
 case le=>exact AS.le_of (by refine Yd ?_;refine Yd ?_;refine Yd ?_;refine Yd ?_;exact FrLe.nil) (by exact HpLe.nil)
 case round =>
  rintro mz _ ⟨k,hk,rfl,hall,rfl⟩
  by_cases hlt:k<L.length
  ·obtain ⟨z1,z2,z3,z4⟩:=hz _ (rtAt_mem hlt)
   have c1:=rValid_abs (rtAt L k).b (rtAt L k).l (rtAt L k).b' (rtAt L k).l' z1 z2 z3 z4
   by_cases hq:QOk (rtAt L k).b (rtAt L k).l (rtAt L k).b' (rtAt L k).l'
   ·rw [decide_eq_true hq] at c1
    obtain ⟨q,q1,q2,q3,q4⟩:=id hq
    have c2:=Sign_abs q
    have hcc:ratC q = rawC (rtAt L k).b (rtAt L k).l (rtAt L k).b' (rtAt L k).l':=by rw [q1,q2,q3,q4];rfl
    rw [hcc] at c2
    by_cases hz0:q = 0
    ·have hs:=num_sign0.2 hz0
     have hno:¬ ValidL L:=fun h=>(h k hlt).1.2.1 (by rw [q2,hz0];exact digs_zero)
     rw [decide_eq_false hno]
     apply Y1;refine Wq Qz.cmpT ?_;apply Y0;apply AWp.seq;refine Ct ?_;apply Ys;apply AWp.seq;apply AWp.block;apply Y1;refine Wm ?_;refine Wq Qz.indexN ?_;refine Wq Qz.loadEf ?_;refine AWs.al (tab_of rfl) rfl rfl rfl rfl rfl rfl ?_;refine Wa ?_;refine Sf ?_;apply Y0;apply AWp.seq;apply Y1;refine Wq Qz.fldP ?_;refine Wq Qz.ldD ?_;refine Wq (Qz.call (c1)) ?_;refine Wq Qz.not ?_;refine Wm ?_;refine Wg Qz.fldP ?_;refine Wg Qz.ldD ?_;refine Wg (Qz.call (c2)) ?_;refine Wg Qz.cmpT ?_;refine Wq Qz.pickF ?_;refine Wm ?_;refine Ws ?_;refine Ws ?_;refine Ws ?_;refine Ws ?_;refine Wq Qz.pickT ?_;apply Y0;refine Ct ?_;apply Y1;refine Wa ?_;apply Y0;apply AWp.ret;apply AThen.ret;apply ABlock.ret;apply AThen.ret;apply ALoop.ret;apply ABlock.ret;apply AThen.ret
     exact Yf
    ·have hs:q.num.sign ≠ 0:=fun e=>hz0 (num_sign0.1 e)
     by_cases hm:In8 (rtAt L k).m 0 65535
     ·have htk : tOk (rtAt L k) := ⟨hq, fun e => by rw [q2] at e; have := digs_length_zero.1 (by rw [e]; rfl); exact rnum_ne hz0 (by omega), hm⟩
      rcases Nat.eq_zero_or_pos k with h0 | h0
      ·subst h0
       apply Y1;refine Wq Qz.cmpT ?_;apply Y0;apply AWp.seq;refine Ct ?_;apply Ys;apply AWp.seq;apply AWp.block;apply Y1;refine Wm ?_;refine Wq Qz.indexN ?_;refine Wq Qz.loadEf ?_;refine AWs.al (tab_of rfl) rfl rfl rfl rfl rfl rfl ?_;refine Wa ?_;refine Sf ?_;apply Y0;apply AWp.seq;apply Y1;refine Wq Qz.fldP ?_;refine Wq Qz.ldD ?_;refine Wq (Qz.call (c1)) ?_;refine Wq Qz.not ?_;refine Wm ?_;refine Wg Qz.fldP ?_;refine Wg Qz.ldD ?_;refine Wg (Qz.call (c2)) ?_;refine Wg Qz.cmpF ?_;refine Wq Qz.pickF ?_;refine Wm ?_;refine Wg Qz.fldP ?_;refine Wg Qz.ldD ?_;refine Wg (Qz.call (mValidT_abs (rtAt L 0).m hm)) ?_;refine Wg Qz.not ?_;refine Wq Qz.pickF ?_;apply Y0;refine Cf ?_;apply Ys;apply AWp.seq
       refine AWp.dr' (DrawOk.self (by kernel_rfl)) [[],[(28,0)],[(29,1)],[],[],[(32,4)],[(31,3),(33,5)],[(34,6)],[(35,7)],[],[(37,9)],[(36,8),(38,10)],[(39,11)],[(30,2),(40,12)]] [[],[0],[0,1],[0,1,2],[0,1,2],[0,1,2,4],[0,1,2,3,4,5],[0,1,2,3,4,5,6],[0,1,2,3,4,5,6,7],[0,1,2],[0,1,2,9],[0,1,2,3,4,5,6,7,8,9,10],[0,1,2,3,4,5,6,7,8,9,10,11],[0,1,2,3,4,5,6,7,8,9,10,11,12]] rfl (by kernel_rfl) (by kernel_rfl) (by kernel_rfl) ?_
       refine Xq Qz.move ?_;refine Xq Qz.cmpF ?_;refine Xq Qz.move ?_;refine Xs ?_;refine Xs ?_;refine Xs ?_;refine Xs ?_;refine Xs ?_;refine Xs ?_;refine Xs ?_;refine Xs ?_;refine Xs ?_;refine Xs ?_;refine Xq Qz.pickF ?_;refine ⟨_,rfl,?_⟩
       apply Y0;refine Cf ?_;apply AWp.skip;apply ABlock.normal;apply Yn;apply AWp.region;refine Wq Qz.succ ?_;refine Wm ?_;apply AWl.nil
       refine ALoop.next (L.length - 1) (by omega) ⟨1,by omega,rfl,fun j hj=>by obtain rfl:j = 0:=(by omega);exact ⟨htk,fun h=>absurd h (Nat.lt_irrefl _)⟩,rfl⟩ ?_
       exact AS.le_of (by refine Yd ?_;refine Yd ?_;refine Yd ?_;refine Yd ?_;exact FrLe.nil) (by exact HpLe.nil)
      ·by_cases hc:0<lex8 (rtAt L (k - 1)).m (rtAt L k).m
       ·apply Y1;refine Wq Qz.cmpT ?_;apply Y0;apply AWp.seq;refine Ct ?_;apply Ys;apply AWp.seq;apply AWp.block;apply Y1;refine Wm ?_;refine Wq Qz.indexN ?_;refine Wq Qz.loadEf ?_;refine AWs.al (tab_of rfl) rfl rfl rfl rfl rfl rfl ?_;refine Wa ?_;refine Sf ?_;apply Y0;apply AWp.seq;apply Y1;refine Wq Qz.fldP ?_;refine Wq Qz.ldD ?_;refine Wq (Qz.call (c1)) ?_;refine Wq Qz.not ?_;refine Wm ?_;refine Wg Qz.fldP ?_;refine Wg Qz.ldD ?_;refine Wg (Qz.call (c2)) ?_;refine Wg Qz.cmpF ?_;refine Wq Qz.pickF ?_;refine Wm ?_;refine Wg Qz.fldP ?_;refine Wg Qz.ldD ?_;refine Wg (Qz.call (mValidT_abs (rtAt L k).m hm)) ?_;refine Wg Qz.not ?_;refine Wq Qz.pickF ?_;apply Y0;refine Cf ?_;apply Ys;apply AWp.seq
        refine AWp.dr' (DrawOk.self (by kernel_rfl)) [[],[(28,0)],[(29,1)],[],[],[(32,4)],[(31,3),(33,5)],[(34,6)],[(35,7)],[],[(37,9)],[(36,8),(38,10)],[(39,11)],[(30,2),(40,12)]] [[],[0],[0,1],[0,1,2],[0,1,2],[0,1,2,4],[0,1,2,3,4,5],[0,1,2,3,4,5,6],[0,1,2,3,4,5,6,7],[0,1,2],[0,1,2,9],[0,1,2,3,4,5,6,7,8,9,10],[0,1,2,3,4,5,6,7,8,9,10,11],[0,1,2,3,4,5,6,7,8,9,10,11,12]] rfl (by kernel_rfl) (by kernel_rfl) (by kernel_rfl) ?_
        refine Xq Qz.move ?_;refine Xq Qz.cmpT ?_;refine Xq Qz.move ?_;refine Xg Qz.move ?_;refine Xg Qz.move ?_;refine Xg Qz.pred ?_;refine Xg Qz.indexN ?_;refine Xg Qz.fldE ?_;refine Xg Qz.loadEf ?_;refine Xg Qz.fldP ?_;refine Xg Qz.ldD ?_;refine Xg (Qz.call (mCmp_abs (rtAt L (k - 1)).m (rtAt L k).m)) ?_;refine Xg Qz.cmpF ?_;refine Xq Qz.pickT ?_;refine ⟨_,rfl,?_⟩
        apply Y0;refine Cf ?_;apply AWp.skip;apply ABlock.normal;apply Yn;apply AWp.region;refine Wq Qz.succ ?_;refine Wm ?_;apply AWl.nil
        refine ALoop.next (L.length - (k+1)) (by omega) ⟨k+1,by omega,rfl,fun j hj=>?_,rfl⟩ ?_
        ·rcases Nat.lt_succ_iff_lt_or_eq.1 hj with h | rfl
         ·exact hall j h
         ·exact ⟨htk,fun _=>hc⟩
        ·exact AS.le_of (by refine Yd ?_;refine Yd ?_;refine Yd ?_;refine Yd ?_;exact FrLe.nil) (by exact HpLe.nil)
       ·have hno:¬ ValidL L:=fun h=>hc ((h k hlt).2 h0)
        rw [decide_eq_false hno]
        apply Y1;refine Wq Qz.cmpT ?_;apply Y0;apply AWp.seq;refine Ct ?_;apply Ys;apply AWp.seq;apply AWp.block;apply Y1;refine Wm ?_;refine Wq Qz.indexN ?_;refine Wq Qz.loadEf ?_;refine AWs.al (tab_of rfl) rfl rfl rfl rfl rfl rfl ?_;refine Wa ?_;refine Sf ?_;apply Y0;apply AWp.seq;apply Y1;refine Wq Qz.fldP ?_;refine Wq Qz.ldD ?_;refine Wq (Qz.call (c1)) ?_;refine Wq Qz.not ?_;refine Wm ?_;refine Wg Qz.fldP ?_;refine Wg Qz.ldD ?_;refine Wg (Qz.call (c2)) ?_;refine Wg Qz.cmpF ?_;refine Wq Qz.pickF ?_;refine Wm ?_;refine Wg Qz.fldP ?_;refine Wg Qz.ldD ?_;refine Wg (Qz.call (mValidT_abs (rtAt L k).m hm)) ?_;refine Wg Qz.not ?_;refine Wq Qz.pickF ?_;apply Y0;refine Cf ?_;apply Ys;apply AWp.seq
        refine AWp.dr' (DrawOk.self (by kernel_rfl)) [[],[(28,0)],[(29,1)],[],[],[(32,4)],[(31,3),(33,5)],[(34,6)],[(35,7)],[],[(37,9)],[(36,8),(38,10)],[(39,11)],[(30,2),(40,12)]] [[],[0],[0,1],[0,1,2],[0,1,2],[0,1,2,4],[0,1,2,3,4,5],[0,1,2,3,4,5,6],[0,1,2,3,4,5,6,7],[0,1,2],[0,1,2,9],[0,1,2,3,4,5,6,7,8,9,10],[0,1,2,3,4,5,6,7,8,9,10,11],[0,1,2,3,4,5,6,7,8,9,10,11,12]] rfl (by kernel_rfl) (by kernel_rfl) (by kernel_rfl) ?_
        refine Xq Qz.move ?_;refine Xq Qz.cmpT ?_;refine Xq Qz.move ?_;refine Xg Qz.move ?_;refine Xg Qz.move ?_;refine Xg Qz.pred ?_;refine Xg Qz.indexN ?_;refine Xg Qz.fldE ?_;refine Xg Qz.loadEf ?_;refine Xg Qz.fldP ?_;refine Xg Qz.ldD ?_;refine Xg (Qz.call (mCmp_abs (rtAt L (k - 1)).m (rtAt L k).m)) ?_;refine Xg Qz.cmpT ?_;refine Xq Qz.pickT ?_;refine ⟨_,rfl,?_⟩
        apply Y0;refine Ct ?_;apply Y1;refine Wa ?_;apply Y0;apply AWp.ret;apply ABlock.ret;apply AThen.ret;apply ALoop.ret;apply ABlock.ret;apply AThen.ret
        exact Yf
     ·have hno:¬ ValidL L:=fun h=>hm (h k hlt).1.2.2
      rw [decide_eq_false hno]
      apply Y1;refine Wq Qz.cmpT ?_;apply Y0;apply AWp.seq;refine Ct ?_;apply Ys;apply AWp.seq;apply AWp.block;apply Y1;refine Wm ?_;refine Wq Qz.indexN ?_;refine Wq Qz.loadEf ?_;refine AWs.al (tab_of rfl) rfl rfl rfl rfl rfl rfl ?_;refine Wa ?_;refine Sf ?_;apply Y0;apply AWp.seq;apply Y1;refine Wq Qz.fldP ?_;refine Wq Qz.ldD ?_;refine Wq (Qz.call (c1)) ?_;refine Wq Qz.not ?_;refine Wm ?_;refine Wg Qz.fldP ?_;refine Wg Qz.ldD ?_;refine Wg (Qz.call (c2)) ?_;refine Wg Qz.cmpF ?_;refine Wq Qz.pickF ?_;refine Wm ?_;refine Wg Qz.fldP ?_;refine Wg Qz.ldD ?_;refine Wg (Qz.call (mValidF_abs (rtAt L k).m hm)) ?_;refine Wg Qz.not ?_;refine Wq Qz.pickF ?_;apply Y0;refine Ct ?_;apply Y1;refine Wa ?_;apply Y0;apply AWp.ret;apply AThen.ret;apply ABlock.ret;apply AThen.ret;apply ALoop.ret;apply ABlock.ret;apply AThen.ret
      exact Yf
   ·rw [decide_eq_false hq] at c1
    have hno:¬ ValidL L:=fun h=>hq (h k hlt).1.1
    rw [decide_eq_false hno]
    apply Y1;refine Wq Qz.cmpT ?_;apply Y0;apply AWp.seq;refine Ct ?_;apply Ys;apply AWp.seq;apply AWp.block;apply Y1;refine Wm ?_;refine Wq Qz.indexN ?_;refine Wq Qz.loadEf ?_;refine AWs.al (tab_of rfl) rfl rfl rfl rfl rfl rfl ?_;refine Wa ?_;refine Sf ?_;apply Y0;apply AWp.seq;apply Y1;refine Wq Qz.fldP ?_;refine Wq Qz.ldD ?_;refine Wq (Qz.call (c1)) ?_;refine Wq Qz.not ?_;refine Wm ?_;refine Ws ?_;refine Ws ?_;refine Ws ?_;refine Ws ?_;refine Wq Qz.pickT ?_;refine Wm ?_;refine Ws ?_;refine Ws ?_;refine Ws ?_;refine Ws ?_;refine Wq Qz.pickT ?_;apply Y0;refine Ct ?_;apply Y1;refine Wa ?_;apply Y0;apply AWp.ret;apply AThen.ret;apply ABlock.ret;apply AThen.ret;apply ALoop.ret;apply ABlock.ret;apply AThen.ret
    exact Yf
  ·obtain rfl : k = L.length := by omega
   have hyes:ValidL L:=hall
   rw [decide_eq_true hyes]
   apply Y1;refine Wq Qz.cmpF ?_;apply Y0;apply AWp.seq;refine Cf ?_;apply AWp.exit;apply AThen.exit;apply ALoop.exit;apply ABlock.hit;apply Yn;apply Y1;refine Wa ?_;apply Y0;apply AWp.ret
   exact Yf
theorem RmValidT_abs (a : Nat→Int) (h:In8 a 0 65535):Abs Tryz.prog 72 [agD (monC a)] (ex (.bool true)):=by
 refine Ab Tryz.func72 fun s0=>?_
 rw [Tryz.ntmps72]
 apply Y1;refine AWs.bx (ao rfl) rfl rfl rfl rfl ?_;refine Wa ?_;apply Y0;apply AWp.seq;apply Y1;refine Wa ?_;apply Y0;apply AWp.block
 refine AWp.loop (fun mz σ=>∃ k,k≤8∧mz = 8 - k∧σ = ⟨[(1,.ptr 0 0),(2,.d (ex (.bool false))),(3,.d (ex (.int .i64 (k:Nat))))],[.var 31 ((monC a).map .d)]⟩) ?le ⟨0,by omega,rfl,rfl⟩ ?round
 case le=>exact AS.le_of (by refine Yp ?_;refine Yd ?_;refine Yd ?_;exact FrLe.nil) (by apply Yv;exact HpLe.nil)
 case round =>
  rintro mz _ ⟨k,hk,rfl,rfl⟩
  by_cases hlt:k<8
  ·have hk':=h k hlt
   apply AWp.seq;apply Y1;refine Wm ?_;refine Wq Qz.cmpT ?_;apply Y0;refine Ct ?_;apply Ys;apply AWp.seq;apply AWp.block;apply Y1;refine Wm ?_;refine Wq Qz.ixP ?_;refine Wq Qz.ldX1 ?_;refine Wq Qz.cmpF ?_;refine Wm ?_;refine Wg Qz.move ?_;refine Wg Qz.ixP ?_;refine Wg Qz.ldX1 ?_;refine Wg Qz.cmpF ?_;refine Wq Qz.pickF ?_;apply Y0;refine Cf ?_;apply AWp.skip;apply ABlock.normal;apply Yn;apply AWp.region;refine Wm ?_;refine Wq Qz.succ ?_;refine Wa ?_;apply AWl.nil
   refine ALoop.next (8 - (k+1)) (by omega) ⟨k+1,by omega,rfl,rfl⟩ ?_
   exact AS.le_of (by refine Yp ?_;refine Yd ?_;refine Yd ?_;exact FrLe.nil) (by apply Yv;exact HpLe.nil)
  ·obtain rfl : k = 8 := by omega
   apply AWp.seq;apply Y1;refine Wm ?_;refine Wq Qz.cmpF ?_;apply Y0;refine Cf ?_;apply AWp.exit;apply AThen.exit;apply ALoop.exit;apply ABlock.hit;apply Yn;apply Y1;refine Wa ?_;apply Y0;apply AWp.ret
   exact Yf
theorem RmValidF_abs (a : Nat→Int) (h:¬ In8 a 0 65535):Abs Tryz.prog 72 [agD (monC a)] (ex (.bool false)):=by
 refine Ab Tryz.func72 fun s0=>?_
 rw [Tryz.ntmps72]
 apply Y1;refine AWs.bx (ao rfl) rfl rfl rfl rfl ?_;refine Wa ?_;apply Y0;apply AWp.seq;apply Y1;refine Wa ?_;apply Y0;apply AWp.block
 refine AWp.loop (fun mz σ=>∃ k,k≤8∧mz = 8 - k∧(∀ j,j<k→0≤a j∧a j≤65535)∧σ = ⟨[(1,.ptr 0 0),(2,.d (ex (.bool false))),(3,.d (ex (.int .i64 (k:Nat))))],[.var 31 ((monC a).map .d)]⟩) ?le ⟨0,by omega,rfl,fun j hj=>absurd hj (Nat.not_lt_zero j),rfl⟩ ?round
 case le=>exact AS.le_of (by refine Yp ?_;refine Yd ?_;refine Yd ?_;exact FrLe.nil) (by apply Yv;exact HpLe.nil)
 case round =>
  rintro mz _ ⟨k,hk,rfl,hall,rfl⟩
  by_cases hlt:k<8
  ·rcases (show a k < 0 ∨ (0 ≤ a k ∧ 65535 < a k) ∨ (0 ≤ a k ∧ a k ≤ 65535) by omega) with h1 | ⟨h1, h2⟩ | ⟨h1, h2⟩
   ·apply AWp.seq;apply Y1;refine Wm ?_;refine Wq Qz.cmpT ?_;apply Y0;refine Ct ?_;apply Ys;apply AWp.seq;apply AWp.block;apply Y1;refine Wm ?_;refine Wq Qz.ixP ?_;refine Wq Qz.ldX1 ?_;refine Wq Qz.cmpT ?_;refine Wm ?_;refine Ws ?_;refine Ws ?_;refine Ws ?_;refine Ws ?_;refine Wq Qz.pickT ?_;apply Y0;refine Ct ?_;apply Y1;refine Wa ?_;apply Y0;apply AWp.ret;apply ABlock.ret;apply AThen.ret;apply ALoop.ret;apply ABlock.ret;apply AThen.ret
    exact Yf
   ·apply AWp.seq;apply Y1;refine Wm ?_;refine Wq Qz.cmpT ?_;apply Y0;refine Ct ?_;apply Ys;apply AWp.seq;apply AWp.block;apply Y1;refine Wm ?_;refine Wq Qz.ixP ?_;refine Wq Qz.ldX1 ?_;refine Wq Qz.cmpF ?_;refine Wm ?_;refine Wg Qz.move ?_;refine Wg Qz.ixP ?_;refine Wg Qz.ldX1 ?_;refine Wg Qz.cmpT ?_;refine Wq Qz.pickF ?_;apply Y0;refine Ct ?_;apply Y1;refine Wa ?_;apply Y0;apply AWp.ret;apply ABlock.ret;apply AThen.ret;apply ALoop.ret;apply ABlock.ret;apply AThen.ret
    exact Yf
   ·apply AWp.seq;apply Y1;refine Wm ?_;refine Wq Qz.cmpT ?_;apply Y0;refine Ct ?_;apply Ys;apply AWp.seq;apply AWp.block;apply Y1;refine Wm ?_;refine Wq Qz.ixP ?_;refine Wq Qz.ldX1 ?_;refine Wq Qz.cmpF ?_;refine Wm ?_;refine Wg Qz.move ?_;refine Wg Qz.ixP ?_;refine Wg Qz.ldX1 ?_;refine Wg Qz.cmpF ?_;refine Wq Qz.pickF ?_;apply Y0;refine Cf ?_;apply AWp.skip;apply ABlock.normal;apply Yn;apply AWp.region;refine Wm ?_;refine Wq Qz.succ ?_;refine Wa ?_;apply AWl.nil
    refine ALoop.next (8 - (k+1)) (by omega) ⟨k+1,by omega,rfl,fun j hj=>?_,rfl⟩ ?_
    ·rcases Nat.lt_succ_iff_lt_or_eq.1 hj with h3 | rfl
     ·exact hall j h3
     ·exact ⟨h1,h2⟩
    ·exact AS.le_of (by refine Yp ?_;refine Yd ?_;refine Yd ?_;exact FrLe.nil) (by apply Yv;exact HpLe.nil)
  ·obtain rfl : k = 8 := by omega
   exact absurd hall h
open Classical in
theorem RPValid_abs (L : List RTm) (hz:rtSz L) (hn:L.length≤1000000):Abs Tryz.prog 15 [rtD L] (ex (.bool (decide (ValidL L)))):=by
 refine Ab Tryz.func15 fun s0=>?_
 rw [Tryz.ntmps15]
 apply Y1;refine Wa ?_;apply Y0;apply AWp.seq;apply Y1;refine Wa ?_;apply Y0;apply AWp.block
 refine AWp.loop (fun mz σ=>∃ k,k≤L.length∧mz = L.length - k∧(∀ j,j<k→tOk (rtAt L j)∧(0<j→0<lex8 (rtAt L (j - 1)).m (rtAt L j).m))∧σ = ⟨[(0,.d (rtD L)),(3,.d (ex (.int .i64 (k:Nat))))],[]⟩) ?le ⟨0,by omega,rfl,fun j hj=>absurd hj (Nat.not_lt_zero j),rfl⟩ ?round
 case le=>exact AS.le_of (by refine Yd ?_;refine Yd ?_;exact FrLe.nil) (by exact HpLe.nil)
 case round =>
  rintro mz _ ⟨k,hk,rfl,hall,rfl⟩
  by_cases hlt:k<L.length
  ·obtain ⟨z1,z2,z3,z4⟩:=hz _ (rtAt_mem hlt)
   have c1:=RrValid_abs (rtAt L k).b (rtAt L k).l (rtAt L k).b' (rtAt L k).l' z1 z2 z3 z4
   by_cases hq:QOk (rtAt L k).b (rtAt L k).l (rtAt L k).b' (rtAt L k).l'
   ·rw [decide_eq_true hq] at c1
    obtain ⟨q,q1,q2,q3,q4⟩:=id hq
    have c2:=RSign_abs q
    have hcc:ratC q = rawC (rtAt L k).b (rtAt L k).l (rtAt L k).b' (rtAt L k).l':=by rw [q1,q2,q3,q4];rfl
    rw [hcc] at c2
    by_cases hz0:q = 0
    ·have hs:=num_sign0.2 hz0
     have hno:¬ ValidL L:=fun h=>(h k hlt).1.2.1 (by rw [q2,hz0];exact digs_zero)
     rw [decide_eq_false hno]
     apply AWp.seq;apply Y1;refine Wm ?_;refine Wm ?_;refine Wq Qz.lenN ?_;refine Wq Qz.cmpT ?_;apply Y0;refine Ct ?_;apply Ys;apply AWp.seq;apply AWp.block;apply AWp.seq;apply Y1;refine Wm ?_;refine Wm ?_;refine Wq Qz.indexN ?_;refine Wq Qz.fldE ?_;refine Wq Qz.ldE ?_;refine Wq (Qz.call (c1)) ?_;refine Wq Qz.not ?_;refine Wm ?_;refine Wg Qz.move ?_;refine Wg Qz.move ?_;refine Wg Qz.indexN ?_;refine Wg Qz.fldE ?_;refine Wg Qz.ldE ?_;refine Wg (Qz.call (c2)) ?_;refine Wg Qz.cmpT ?_;refine Wq Qz.pickF ?_;refine Wm ?_;refine Ws ?_;refine Ws ?_;refine Ws ?_;refine Ws ?_;refine Ws ?_;refine Ws ?_;refine Ws ?_;refine Wq Qz.pickT ?_;apply Y0;refine Ct ?_;apply Y1;refine Wa ?_;apply Y0;apply AWp.ret;apply AThen.ret;apply ABlock.ret;apply AThen.ret;apply ALoop.ret;apply ABlock.ret;apply AThen.ret
     exact Yf
    ·have hs:q.num.sign ≠ 0:=fun e=>hz0 (num_sign0.1 e)
     by_cases hm:In8 (rtAt L k).m 0 65535
     ·have htk : tOk (rtAt L k) := ⟨hq, fun e => by rw [q2] at e; have := digs_length_zero.1 (by rw [e]; rfl); exact rnum_ne hz0 (by omega), hm⟩
      rcases Nat.eq_zero_or_pos k with h0 | h0
      ·subst h0
       apply AWp.seq;apply Y1;refine Wm ?_;refine Wm ?_;refine Wq Qz.lenN ?_;refine Wq Qz.cmpT ?_;apply Y0;refine Ct ?_;apply Ys;apply AWp.seq;apply AWp.block;apply AWp.seq;apply Y1;refine Wm ?_;refine Wm ?_;refine Wq Qz.indexN ?_;refine Wq Qz.fldE ?_;refine Wq Qz.ldE ?_;refine Wq (Qz.call (c1)) ?_;refine Wq Qz.not ?_;refine Wm ?_;refine Wg Qz.move ?_;refine Wg Qz.move ?_;refine Wg Qz.indexN ?_;refine Wg Qz.fldE ?_;refine Wg Qz.ldE ?_;refine Wg (Qz.call (c2)) ?_;refine Wg Qz.cmpF ?_;refine Wq Qz.pickF ?_;refine Wm ?_;refine Wg Qz.move ?_;refine Wg Qz.move ?_;refine Wg Qz.indexN ?_;refine Wg Qz.fldE ?_;refine Wg Qz.loadEf ?_;refine Wg (Qz.call (RmValidT_abs (rtAt L 0).m hm)) ?_;refine Wg Qz.not ?_;refine Wq Qz.pickF ?_;apply Y0;refine Cf ?_;apply Ys;apply AWp.seq
       refine AWp.dr' (DrawOk.self (by kernel_rfl)) [[],[(35,0)],[(36,1)],[],[],[(39,4)],[(38,3),(40,5)],[(41,6)],[(42,7)],[],[],[(44,9),(45,10)],[(46,11)],[(47,12)],[(43,8),(48,13)],[(49,14)],[(37,2),(50,15)]] [[],[0],[0,1],[0,1,2],[0,1,2],[0,1,2,4],[0,1,2,3,4,5],[0,1,2,3,4,5,6],[0,1,2,3,4,5,6,7],[0,1,2],[0,1,2],[0,1,2,9,10],[0,1,2,9,10,11],[0,1,2,9,10,11,12],[0,1,2,3,4,5,6,7,8,9,10,11,12,13],[0,1,2,3,4,5,6,7,8,9,10,11,12,13,14],[0,1,2,3,4,5,6,7,8,9,10,11,12,13,14,15]] rfl (by kernel_rfl) (by kernel_rfl) (by kernel_rfl) ?_
       refine Xq Qz.move ?_;refine Xq Qz.cmpF ?_;refine Xq Qz.move ?_;refine Xs ?_;refine Xs ?_;refine Xs ?_;refine Xs ?_;refine Xs ?_;refine Xs ?_;refine Xs ?_;refine Xs ?_;refine Xs ?_;refine Xs ?_;refine Xs ?_;refine Xs ?_;refine Xs ?_;refine Xq Qz.pickF ?_;refine ⟨_,rfl,?_⟩
       apply Y0;refine Cf ?_;apply AWp.skip;apply ABlock.normal;apply Yn;apply AWp.region;refine Wm ?_;refine Wq Qz.succ ?_;refine Wa ?_;apply AWl.nil
       refine ALoop.next (L.length - 1) (by omega) ⟨1,by omega,rfl,fun j hj=>by obtain rfl:j = 0:=(by omega);exact ⟨htk,fun h=>absurd h (Nat.lt_irrefl _)⟩,rfl⟩ ?_
       exact AS.le_of (by refine Yd ?_;refine Yd ?_;exact FrLe.nil) (by exact HpLe.nil)
      ·by_cases hc:0<lex8 (rtAt L (k - 1)).m (rtAt L k).m
       ·apply AWp.seq;apply Y1;refine Wm ?_;refine Wm ?_;refine Wq Qz.lenN ?_;refine Wq Qz.cmpT ?_;apply Y0;refine Ct ?_;apply Ys;apply AWp.seq;apply AWp.block;apply AWp.seq;apply Y1;refine Wm ?_;refine Wm ?_;refine Wq Qz.indexN ?_;refine Wq Qz.fldE ?_;refine Wq Qz.ldE ?_;refine Wq (Qz.call (c1)) ?_;refine Wq Qz.not ?_;refine Wm ?_;refine Wg Qz.move ?_;refine Wg Qz.move ?_;refine Wg Qz.indexN ?_;refine Wg Qz.fldE ?_;refine Wg Qz.ldE ?_;refine Wg (Qz.call (c2)) ?_;refine Wg Qz.cmpF ?_;refine Wq Qz.pickF ?_;refine Wm ?_;refine Wg Qz.move ?_;refine Wg Qz.move ?_;refine Wg Qz.indexN ?_;refine Wg Qz.fldE ?_;refine Wg Qz.loadEf ?_;refine Wg (Qz.call (RmValidT_abs (rtAt L k).m hm)) ?_;refine Wg Qz.not ?_;refine Wq Qz.pickF ?_;apply Y0;refine Cf ?_;apply Ys;apply AWp.seq
        refine AWp.dr' (DrawOk.self (by kernel_rfl)) [[],[(35,0)],[(36,1)],[],[],[(39,4)],[(38,3),(40,5)],[(41,6)],[(42,7)],[],[],[(44,9),(45,10)],[(46,11)],[(47,12)],[(43,8),(48,13)],[(49,14)],[(37,2),(50,15)]] [[],[0],[0,1],[0,1,2],[0,1,2],[0,1,2,4],[0,1,2,3,4,5],[0,1,2,3,4,5,6],[0,1,2,3,4,5,6,7],[0,1,2],[0,1,2],[0,1,2,9,10],[0,1,2,9,10,11],[0,1,2,9,10,11,12],[0,1,2,3,4,5,6,7,8,9,10,11,12,13],[0,1,2,3,4,5,6,7,8,9,10,11,12,13,14],[0,1,2,3,4,5,6,7,8,9,10,11,12,13,14,15]] rfl (by kernel_rfl) (by kernel_rfl) (by kernel_rfl) ?_
        refine Xq Qz.move ?_;refine Xq Qz.cmpT ?_;refine Xq Qz.move ?_;refine Xg Qz.move ?_;refine Xg Qz.move ?_;refine Xg Qz.pred ?_;refine Xg Qz.indexN ?_;refine Xg Qz.fldE ?_;refine Xg Qz.loadEf ?_;refine Xg Qz.move ?_;refine Xg Qz.move ?_;refine Xg Qz.indexN ?_;refine Xg Qz.fldE ?_;refine Xg Qz.loadEf ?_;refine Xg (Qz.call (RmCmp_abs (rtAt L (k - 1)).m (rtAt L k).m)) ?_;refine Xg Qz.cmpF ?_;refine Xq Qz.pickT ?_;refine ⟨_,rfl,?_⟩
        apply Y0;refine Cf ?_;apply AWp.skip;apply ABlock.normal;apply Yn;apply AWp.region;refine Wm ?_;refine Wq Qz.succ ?_;refine Wa ?_;apply AWl.nil
        refine ALoop.next (L.length - (k+1)) (by omega) ⟨k+1,by omega,rfl,fun j hj=>?_,rfl⟩ ?_
        ·rcases Nat.lt_succ_iff_lt_or_eq.1 hj with h | rfl
         ·exact hall j h
         ·exact ⟨htk,fun _=>hc⟩
        ·exact AS.le_of (by refine Yd ?_;refine Yd ?_;exact FrLe.nil) (by exact HpLe.nil)
       ·have hno:¬ ValidL L:=fun h=>hc ((h k hlt).2 h0)
        rw [decide_eq_false hno]
        apply AWp.seq;apply Y1;refine Wm ?_;refine Wm ?_;refine Wq Qz.lenN ?_;refine Wq Qz.cmpT ?_;apply Y0;refine Ct ?_;apply Ys;apply AWp.seq;apply AWp.block;apply AWp.seq;apply Y1;refine Wm ?_;refine Wm ?_;refine Wq Qz.indexN ?_;refine Wq Qz.fldE ?_;refine Wq Qz.ldE ?_;refine Wq (Qz.call (c1)) ?_;refine Wq Qz.not ?_;refine Wm ?_;refine Wg Qz.move ?_;refine Wg Qz.move ?_;refine Wg Qz.indexN ?_;refine Wg Qz.fldE ?_;refine Wg Qz.ldE ?_;refine Wg (Qz.call (c2)) ?_;refine Wg Qz.cmpF ?_;refine Wq Qz.pickF ?_;refine Wm ?_;refine Wg Qz.move ?_;refine Wg Qz.move ?_;refine Wg Qz.indexN ?_;refine Wg Qz.fldE ?_;refine Wg Qz.loadEf ?_;refine Wg (Qz.call (RmValidT_abs (rtAt L k).m hm)) ?_;refine Wg Qz.not ?_;refine Wq Qz.pickF ?_;apply Y0;refine Cf ?_;apply Ys;apply AWp.seq
        refine AWp.dr' (DrawOk.self (by kernel_rfl)) [[],[(35,0)],[(36,1)],[],[],[(39,4)],[(38,3),(40,5)],[(41,6)],[(42,7)],[],[],[(44,9),(45,10)],[(46,11)],[(47,12)],[(43,8),(48,13)],[(49,14)],[(37,2),(50,15)]] [[],[0],[0,1],[0,1,2],[0,1,2],[0,1,2,4],[0,1,2,3,4,5],[0,1,2,3,4,5,6],[0,1,2,3,4,5,6,7],[0,1,2],[0,1,2],[0,1,2,9,10],[0,1,2,9,10,11],[0,1,2,9,10,11,12],[0,1,2,3,4,5,6,7,8,9,10,11,12,13],[0,1,2,3,4,5,6,7,8,9,10,11,12,13,14],[0,1,2,3,4,5,6,7,8,9,10,11,12,13,14,15]] rfl (by kernel_rfl) (by kernel_rfl) (by kernel_rfl) ?_
        refine Xq Qz.move ?_;refine Xq Qz.cmpT ?_;refine Xq Qz.move ?_;refine Xg Qz.move ?_;refine Xg Qz.move ?_;refine Xg Qz.pred ?_;refine Xg Qz.indexN ?_;refine Xg Qz.fldE ?_;refine Xg Qz.loadEf ?_;refine Xg Qz.move ?_;refine Xg Qz.move ?_;refine Xg Qz.indexN ?_;refine Xg Qz.fldE ?_;refine Xg Qz.loadEf ?_;refine Xg (Qz.call (RmCmp_abs (rtAt L (k - 1)).m (rtAt L k).m)) ?_;refine Xg Qz.cmpT ?_;refine Xq Qz.pickT ?_;refine ⟨_,rfl,?_⟩
        apply Y0;refine Ct ?_;apply Y1;refine Wa ?_;apply Y0;apply AWp.ret;apply ABlock.ret;apply AThen.ret;apply ALoop.ret;apply ABlock.ret;apply AThen.ret
        exact Yf
     ·have hno:¬ ValidL L:=fun h=>hm (h k hlt).1.2.2
      rw [decide_eq_false hno]
      apply AWp.seq;apply Y1;refine Wm ?_;refine Wm ?_;refine Wq Qz.lenN ?_;refine Wq Qz.cmpT ?_;apply Y0;refine Ct ?_;apply Ys;apply AWp.seq;apply AWp.block;apply AWp.seq;apply Y1;refine Wm ?_;refine Wm ?_;refine Wq Qz.indexN ?_;refine Wq Qz.fldE ?_;refine Wq Qz.ldE ?_;refine Wq (Qz.call (c1)) ?_;refine Wq Qz.not ?_;refine Wm ?_;refine Wg Qz.move ?_;refine Wg Qz.move ?_;refine Wg Qz.indexN ?_;refine Wg Qz.fldE ?_;refine Wg Qz.ldE ?_;refine Wg (Qz.call (c2)) ?_;refine Wg Qz.cmpF ?_;refine Wq Qz.pickF ?_;refine Wm ?_;refine Wg Qz.move ?_;refine Wg Qz.move ?_;refine Wg Qz.indexN ?_;refine Wg Qz.fldE ?_;refine Wg Qz.loadEf ?_;refine Wg (Qz.call (RmValidF_abs (rtAt L k).m hm)) ?_;refine Wg Qz.not ?_;refine Wq Qz.pickF ?_;apply Y0;refine Ct ?_;apply Y1;refine Wa ?_;apply Y0;apply AWp.ret;apply AThen.ret;apply ABlock.ret;apply AThen.ret;apply ALoop.ret;apply ABlock.ret;apply AThen.ret
      exact Yf
   ·rw [decide_eq_false hq] at c1
    have hno:¬ ValidL L:=fun h=>hq (h k hlt).1.1
    rw [decide_eq_false hno]
    apply AWp.seq;apply Y1;refine Wm ?_;refine Wm ?_;refine Wq Qz.lenN ?_;refine Wq Qz.cmpT ?_;apply Y0;refine Ct ?_;apply Ys;apply AWp.seq;apply AWp.block;apply AWp.seq;apply Y1;refine Wm ?_;refine Wm ?_;refine Wq Qz.indexN ?_;refine Wq Qz.fldE ?_;refine Wq Qz.ldE ?_;refine Wq (Qz.call (c1)) ?_;refine Wq Qz.not ?_;refine Wm ?_;refine Ws ?_;refine Ws ?_;refine Ws ?_;refine Ws ?_;refine Ws ?_;refine Ws ?_;refine Ws ?_;refine Wq Qz.pickT ?_;refine Wm ?_;refine Ws ?_;refine Ws ?_;refine Ws ?_;refine Ws ?_;refine Ws ?_;refine Ws ?_;refine Ws ?_;refine Wq Qz.pickT ?_;apply Y0;refine Ct ?_;apply Y1;refine Wa ?_;apply Y0;apply AWp.ret;apply AThen.ret;apply ABlock.ret;apply AThen.ret;apply ALoop.ret;apply ABlock.ret;apply AThen.ret
    exact Yf
  ·obtain rfl : k = L.length := by omega
   have hyes:ValidL L:=hall
   rw [decide_eq_true hyes]
   apply AWp.seq;apply Y1;refine Wm ?_;refine Wm ?_;refine Wq Qz.lenN ?_;refine Wq Qz.cmpF ?_;apply Y0;refine Cf ?_;apply AWp.exit;apply AThen.exit;apply ALoop.exit;apply ABlock.hit;apply Yn;apply Y1;refine Wa ?_;apply Y0;apply AWp.ret
   exact Yf
def ofT (t : Tm):RTm:=⟨decide (t.c.num<0),digs t.c.num.natAbs,decide ((t.c.den:Int)<0),digs (t.c.den:Int).natAbs,t.m⟩
theorem polD_rt (P : List Tm):polD P = rtD (P.map ofT):=by
 unfold polD rtD
 rw [List.map_map]
 rfl
theorem rtAt_of {P : List Tm} {k:Nat} (h:k<P.length):rtAt (P.map ofT) k = ofT (tAt P k):=by
 unfold rtAt tAt
 rw [List.getD_eq_getElem?_getD,List.getElem?_map,List.getElem?_eq_getElem h]
 simp [List.getD_eq_getElem?_getD,List.getElem?_eq_getElem h]
theorem ofT_ok (t : Tm):QOk (ofT t).b (ofT t).l (ofT t).b' (ofT t).l':=⟨t.c,rfl,rfl,rfl,rfl⟩
theorem dec_at {P : List Tm} (h:Dec P) {k:Nat} (hk:k<P.length) (h0:0<k):0<lx (tAt P (k - 1)).m (tAt P k).m:=by
 unfold Dec at h
 rw [List.pairwise_iff_getElem] at h
 have e:∀ k (hk:k<P.length),tAt P k = P[k]:=fun k hk=>by simp [tAt,List.getD_eq_getElem?_getD,List.getElem?_eq_getElem hk]
 rw [e _ hk,e (k - 1) (by omega)]
 exact h (k - 1) k (by omega) hk (by omega)
theorem valid_of {P : List Tm} (h:Canon P) (hi:PIn P 0 65535):ValidL (P.map ofT):=fun k hk=>by
 rw [List.length_map] at hk
 rw [rtAt_of hk]
 refine ⟨⟨ofT_ok _,fun e=>?_,hi _ (tAt_mem hk)⟩,fun h0=>?_⟩
 ·have h1:=h.2 _ (tAt_mem hk)
  have h2:digs (tAt P k).c.num.natAbs = []:=e
  have:=digs_length_zero.1 (show (digs (tAt P k).c.num.natAbs).length = 0 by rw [h2];rfl)
  exact rnum_ne h1 (by omega)
 ·rw [rtAt_of (by omega)]
  show 0<lex8 (tAt P (k - 1)).m (tAt P k).m
  rw [← lx_lex]
  exact dec_at h.1 hk h0
theorem rtSz_of {P : List Tm} {N:Nat} (h:PSz P N) (hN:N≤1000000000):rtSz (P.map ofT):=fun r hr=>by
 obtain ⟨t,ht,rfl⟩:=List.mem_map.1 hr
 have:=h t ht
 exact ⟨small_digs _,small_digs _,Nat.le_trans this.1 hN,Nat.le_trans this.2 hN⟩
open Classical in
theorem PValidP_abs (P : List Tm) (N:Nat) (h:Canon P) (hi:PIn P 0 65535) (hs:PSz P N) (hN:N≤1000000000) (hn:P.length≤1000000):Abs Tryz.prog 14 [polD P] (ex (.bool true)):=by
 have:=PValid_abs (P.map ofT) (rtSz_of hs hN) (by simpa using hn)
 rw [decide_eq_true (valid_of h hi)] at this
 rw [polD_rt]
 exact this
open Classical in
theorem RPValidP_abs (P : List Tm) (N:Nat) (h:Canon P) (hi:PIn P 0 65535) (hs:PSz P N) (hN:N≤1000000000) (hn:P.length≤1000000):Abs Tryz.prog 15 [polD P] (ex (.bool true)):=by
 have:=RPValid_abs (P.map ofT) (rtSz_of hs hN) (by simpa using hn)
 rw [decide_eq_true (valid_of h hi)] at this
 rw [polD_rt]
 exact this
theorem RConst_abs (c : Rat):Abs Tryz.prog 63 [agD (ratC c)] (polD (constL c)):=by
 by_cases hz:c = 0
 ·have hs:=num_sign0.2 hz
  refine Ab Tryz.func63 fun s0=>?_
  rw [Tryz.ntmps63]
  apply Y1;refine AWs.bx (ao rfl) rfl rfl rfl rfl ?_;refine Wa ?_;apply Y0;apply AWp.seq;apply Y1;refine Wq Qz.ldD ?_;refine Wq (Qz.call (RSign_abs c)) ?_;refine Wq Qz.cmpT ?_;apply Y0;refine Ct ?_;apply Y1;refine Wa ?_;apply Y0;apply AWp.ret;apply AThen.ret
  exact Fin.ret (Rets.of1 (ResV.tmp rfl rfl) (D.le.trans D.le_nilP (D.le_pol (by rw [constL,if_pos hz]))))
 ·have hs:c.num.sign ≠ 0:=fun e=>hz (num_sign0.1 e)
  refine Ab Tryz.func63 fun s0=>?_
  rw [Tryz.ntmps63]
  apply Y1;refine AWs.bx (ao rfl) rfl rfl rfl rfl ?_;refine Wa ?_;apply Y0;apply AWp.seq;apply Y1;refine Wq Qz.ldD ?_;refine Wq (Qz.call (RSign_abs c)) ?_;refine Wq Qz.cmpF ?_;apply Y0;refine Cf ?_;apply Ys;apply Y1;refine Wq Qz.ldD ?_;(refine AWs.q rfl rfl ?_;(refine Bq.build (tab_of rfl) rfl rfl rfl ?_;(repeat ((first | refine ⟨_,PartOk.ag (ao rfl),?_⟩ | refine ⟨_,PartOk.one rfl (by first | exact One.ex_ rfl | exact One.sl | exact One.ep),?_⟩);refine ⟨_,rfl,?_⟩));refine ⟨_,rfl,?_⟩));(refine AWs.q rfl rfl ?_;refine ⟨_,Bq.slice1 (ao rfl) (tab_of rfl) (tab_of rfl) rfl rfl rfl rfl rfl,?_⟩);refine Wa ?_;apply Y0;apply AWp.ret
  exact Fin.ret (Rets.of1 (ResV.tmp rfl rfl) (D.le.of_eq (by rw [constL,if_neg hz];rfl)))
theorem RInt_abs (n : Int) (h0:-9223372036854775808≤n) (h1:n≤9223372036854775807):Abs Tryz.prog 64 [ex (.int .i64 n)] (polD (constL n)):=by
 refine Ab Tryz.func64 fun s0=>?_
 rw [Tryz.ntmps64]
 apply Y1;refine Wa ?_;apply Y0;apply Y1;refine Wm ?_;refine Wq (Qz.call (RWhole_abs n h0 h1)) ?_;refine Wq (Qz.call (RConst_abs n)) ?_;refine Wa ?_;apply Y0;apply AWp.ret
 exact Yf
theorem RVar_abs (i : Nat) (hi:i<8):Abs Tryz.prog 116 [ex (.int .i64 (i:Nat))] (tupD [polD [⟨1,unitE i⟩],ex (.int .i64 0)]):=by
 refine Ab Tryz.func116 fun s0=>?_
 rw [Tryz.ntmps116]
 apply Y1;refine Wa ?_;refine Wa ?_;apply Y0;apply AWp.seq;apply Y1;refine Wm ?_;refine Wq Qz.cmpF ?_;refine Wm ?_;refine Wg Qz.move ?_;refine Wg Qz.cmpF ?_;refine Wq Qz.pickF ?_;apply Y0;refine Cf ?_;apply Ys;apply Y1;(refine AWs.q rfl rfl ?_;(refine Bq.arr (tab_of rfl) (tab_of rfl) rfl rfl ?_;(repeat ((first | refine ⟨_,PartOk.ag (ao rfl),?_⟩ | refine ⟨_,PartOk.one rfl (by first | exact One.ex_ rfl | exact One.sl | exact One.ep),?_⟩);refine ⟨_,rfl,?_⟩));refine ⟨_,rfl,?_⟩));refine AWs.al (tab_of rfl) rfl rfl rfl rfl rfl rfl ?_;refine Sf ?_;apply Y0;apply Y1;refine Wm ?_;refine Wq Qz.ixP ?_
 refine AWl.fold 0 (monC fun _=>0) rfl rfl rfl ?_
 (refine AWs.stX1 (ao rfl) (ao rfl) rfl (tab_of rfl) (by first | exact One.ex_ rfl | exact One.sl | exact One.ep) (SetAt.mon (by first | omega | (simp;omega))) rfl ?_);apply Y0;apply AWp.seq
 refine AWp.dr' (DrawOk.self (by kernel_rfl)) [[],[],[(14,0),(15,1)],[(16,2)]] [[],[],[0,1],[0,1,2]] rfl (by kernel_rfl) (by kernel_rfl) (by kernel_rfl) ?_
 refine Xq (Qz.call (RWhole_abs 1 (by omega) (by omega))) ?_;refine Xq Qz.ldD ?_;(refine Hq rfl ?_;refine Bq.build (tab_of rfl) rfl rfl rfl ?_;(repeat ((first | refine ⟨_,PartOk.ag (ah rfl),?_⟩ | refine ⟨_,PartOk.one rfl (by first | exact One.ex_ rfl | exact One.sl | exact One.ep),?_⟩);refine ⟨_,rfl,?_⟩));refine ⟨_,rfl,?_⟩;refine ⟨_,rfl,?_⟩);(refine ⟨_,HStep.q rfl (Bq.slice1 (ah rfl) (tab_of rfl) (tab_of rfl) rfl rfl rfl rfl rfl),?_⟩;refine ⟨_,rfl,?_⟩);refine ⟨_,rfl,?_⟩
 refine Wa ?_;refine Wa ?_;apply Y0;apply AWp.ret
 exact Fin.ret (Rets.of2 (ResV.tmp rfl rfl) (ResV.tmp rfl rfl) (D.le.tup2 (D.le.refl _) (D.le.refl _)))
theorem RX_abs (i : Nat) (hi:i<8):Abs Tryz.prog 49 [ex (.int .i64 (i:Nat))] (polD [⟨1,unitE i⟩]):=by
 refine Ab Tryz.func49 fun s0=>?_
 rw [Tryz.ntmps49]
 apply Y1;refine Wa ?_;apply Y0;apply Y1;refine Wm ?_;refine Wq (Qz.call (RVar_abs i hi)) ?_;refine Wm ?_;refine Wq Qz.ext ?_;refine Wq Qz.ext ?_;refine Wa ?_;refine Wa ?_;apply Y0;apply Y1;refine Wm ?_;refine Wa ?_;apply Y0;apply AWp.ret
 exact Yf
def mixM (a b:Nat→Int) (k:Nat):Nat→Int:=fun j=>if j<k then a j+b j else a j
theorem mixM_set (a b:Nat→Int) (k:Nat):setM (mixM a b k) k (a k+b k) = mixM a b (k+1):=by
 funext j
 simp only [setM,mixM]
 rcases Nat.lt_trichotomy j k with h | h | h
 ·rw [if_neg (by omega),if_pos h,if_pos (by omega)]
 ·subst h;simp
 ·rw [if_neg (by omega),if_neg (by omega),if_neg (by omega)]
theorem mixM_at (a b:Nat→Int) (k:Nat):mixM a b k k = a k:=if_neg (Nat.lt_irrefl k)
theorem RmMul_abs (a b:Nat→Int) (ha:In8 a 0 65535) (hb:In8 b 0 65535) (h:In8 (add8 a b) 0 65535):Abs Tryz.prog 36 [agD (monC a),agD (monC b)] (tupD [agD (monC (add8 a b)),ex (.int .i64 0)]):=by
 refine Ab Tryz.func36 fun s0=>?_
 rw [Tryz.ntmps36]
 apply Y1;refine AWs.bx (ao rfl) rfl rfl rfl rfl ?_;refine AWs.bx (ao rfl) rfl rfl rfl rfl ?_;refine AWs.al (tab_of rfl) rfl rfl rfl rfl rfl rfl ?_;refine Wa ?_;apply Y0;apply AWp.seq;apply Y1;refine Wa ?_;apply Y0;apply AWp.block
 refine AWp.loop (fun mz σ=>∃ k,k≤8∧mz = 8 - k∧σ = ⟨[(2,.ptr 0 0),(3,.ptr 1 0),(4,.ptr 2 0),(6,.d (ex (.int .i64 (k:Nat))))],[.var 31 ((monC (mixM a b k)).map .d),.var 31 ((monC b).map .d),.var 31 ((monC fun _=>0).map .d)]⟩) ?le ⟨0,by omega,rfl,rfl⟩ ?round
 case le=>exact AS.le_of (by refine Yp ?_;refine Yp ?_;refine Yp ?_;refine Yd ?_;exact FrLe.nil) (by apply Yv;apply Yv;apply Yv;exact HpLe.nil)
 case round =>
  rintro mz _ ⟨k,hk,rfl,rfl⟩
  by_cases hlt:k<8
  ·have h1:=mixM_at a b k
   have h2:=ha k hlt
   have h3:=hb k hlt
   apply AWp.seq;apply Y1;refine Wm ?_;refine Wq Qz.cmpT ?_;apply Y0;refine Ct ?_;apply Ys;apply AWp.seq;apply AWp.block
   refine AWp.dr' (DrawOk.self (by kernel_rfl)) [[],[(11,0)],[(12,1)],[],[(14,3)],[(15,4)],[(13,2),(16,5)],[(11,0)]] [[],[0],[0,1],[],[3],[3,4],[0,1,2,3,4,5],[0,1,2,3,4,5,6]] rfl (by kernel_rfl) (by kernel_rfl) (by kernel_rfl) ?_
   refine Xq Qz.move ?_;refine Xq Qz.ixP ?_;refine Xq Qz.ldX1 ?_;refine Xq Qz.move ?_;refine Xq Qz.ixP ?_;refine Xq Qz.ldX1 ?_;refine Xq Qz.add ?_;refine Xq Qz.ixP ?_;refine ⟨_,rfl,?_⟩
   (refine AWs.stX1 (ao rfl) (ao rfl) rfl (tab_of rfl) (by first | exact One.ex_ rfl | exact One.sl | exact One.ep) (SetAt.mon (by first | omega | (simp;omega))) rfl ?_);apply AWl.nil;apply ABlock.normal;apply Yn;apply AWp.region;refine Wm ?_;refine Wq Qz.succ ?_;refine Wa ?_;apply AWl.nil
   refine ALoop.next (8 - (k+1)) (by omega) ⟨k+1,by omega,rfl,rfl⟩ ?_
   exact AS.le_of (by refine Yp ?_;refine Yp ?_;refine Yp ?_;refine Yd ?_;exact FrLe.nil) (by refine HpLe.cons (OwLe.varD (by rw [h1,mixM_set])) ?_;apply Yv;apply Yv;exact HpLe.nil)
  ·obtain rfl : k = 8 := by omega
   apply AWp.seq;apply Y1;refine Wm ?_;refine Wq Qz.cmpF ?_;apply Y0;refine Cf ?_;apply AWp.exit;apply AThen.exit;apply ALoop.exit;apply ABlock.hit;apply Yn;apply AWp.seq;apply Y1;refine Wq Qz.ldD ?_;refine Wq (Qz.call (RmValidT_abs (mixM a b 8) fun i hi=>by have:=h i hi;rw [mixM,if_pos hi];exact this)) ?_;refine Wq Qz.not ?_;apply Y0;refine Cf ?_;apply Ys;apply Y1;refine Wq Qz.ldD ?_;refine Sf ?_;refine Wa ?_;apply Y0;apply AWp.ret
   exact Fin.ret (Rets.of2 (ResV.cell rfl rfl (tab_of rfl) rfl rfl rfl) (ResV.tmp rfl rfl) (D.le.tup2 (D.le.refl _) (D.le.refl _)))
theorem mrg_gt {s t:Tm} {P Q:List Tm} (h:lx s.m t.m = 1):mrg (s :: P) (t :: Q) = s :: mrg P (t :: Q):=by
 rw [mrg,if_pos (show 0<lx s.m t.m by omega)]
theorem mrg_lt {s t:Tm} {P Q:List Tm} (h:lx s.m t.m = -1):mrg (s :: P) (t :: Q) = t :: mrg (s :: P) Q:=by
 rw [mrg,if_neg (show ¬ 0<lx s.m t.m by omega),if_pos (show lx s.m t.m<0 by omega)]
theorem mrg_eq {s t:Tm} {P Q:List Tm} (h:lx s.m t.m = 0):mrg (s :: P) (t :: Q) = if s.c+t.c = 0 then mrg P Q else ⟨s.c+t.c,s.m⟩ :: mrg P Q:=by
 rw [mrg,if_neg (show ¬ 0<lx s.m t.m by omega),if_neg (show ¬ lx s.m t.m<0 by omega)]
theorem nil_mrg (Q : List Tm):mrg [] Q = Q:=by rw [mrg]
theorem RAdd_pol (P Q:List Tm) (N M:Nat) (hP:PSz P N) (hQ:PSz Q M) (hNM:N+M+1≤4398046511103) (hn:P.length+Q.length≤100000):Abs Tryz.prog 56 [polD P,polD Q] (polD (mrg P Q)):=by
 refine Ab Tryz.func56 fun s0=>?_
 rw [Tryz.ntmps56]
 apply Y1;refine Wa ?_;apply Y0;apply Y1;refine AWs.b0 (tab_of rfl) (tab_of rfl) rfl rfl rfl rfl rfl ?_;refine Wa ?_;apply Y0;apply Y1;refine Wa ?_;refine Wa ?_;apply Y0;apply AWp.seq;apply AWp.block
 refine AWp.loop (fun mz σ=>∃ (i k:Nat) (R:List Tm),i≤P.length∧k≤Q.length∧R ++ mrg (P.drop i) (Q.drop k) = mrg P Q∧R.length≤i+k∧mz = (P.length - i)+(Q.length - k)∧σ = ⟨[(0,.d (polD P)),(1,.d (polD Q)),(5,.own 0),(6,.d (ex (.int .i64 (i:Nat)))),(7,.d (ex (.int .i64 (k:Nat))))],[.row 33 12 (R.map tmC)]⟩) ?le ⟨0,0,[],by omega,by omega,rfl,by simp,rfl,rfl⟩ ?round
 case le=>exact AS.le_of (by refine Yd ?_;refine Yd ?_;refine FrLe.cons rfl (AVle.own rfl) ?_;refine Yd ?_;refine Yd ?_;exact FrLe.nil) (by apply Yr;exact HpLe.nil)
 case round =>
  rintro mz _ ⟨i,k,R,hi,hk,heq,hl,rfl,rfl⟩
  by_cases hip:i<P.length
  ·have hdP:=drop_tAt hip
   by_cases hkq:k<Q.length
   ·have hdQ:=drop_tAt hkq
    rw [hdP,hdQ] at heq
    have hs:=hP _ (tAt_mem hip)
    have ht:=hQ _ (tAt_mem hkq)
    rcases lx_val (tAt P i).m (tAt Q k).m with hc | hc | hc
    ·have hc' : lex8 (tAt P i).m (tAt Q k).m = -1 := by rw [← lx_lex]; exact hc
     apply AWp.seq;apply Y1;refine Wm ?_;refine Wm ?_;refine Wq Qz.lenN ?_;refine Wq Qz.cmpT ?_;refine Wm ?_;refine Ws ?_;refine Ws ?_;refine Ws ?_;refine Ws ?_;refine Wq Qz.pickT ?_;apply Y0;refine Ct ?_;apply Ys;apply AWp.block;apply AWp.seq;apply AWp.seq
     refine AWp.dr' (DrawOk.self (by kernel_rfl)) [[],[],[(21,1)],[(20,0),(22,2)],[(23,3)],[],[],[(26,6)],[(25,5),(27,7)],[(28,8)],[],[],[(30,10),(31,11)],[(32,12)],[(33,13)],[],[],[(35,15),(36,16)],[(37,17)],[(38,18)],[(34,14),(39,19)],[(40,20)],[(29,9),(41,21)],[(24,4),(42,22)]] [[],[],[1],[0,1,2],[0,1,2,3],[0,1,2,3,4],[0,1,2,3,4],[0,1,2,3,4,6],[0,1,2,3,4,5,6,7],[0,1,2,3,4,5,6,7,8],[0,1,2,3,4,5,6,7,8,9],[0,1,2,3,4,5,6,7,8,9],[0,1,2,3,4,5,6,7,8,9,10,11],[0,1,2,3,4,5,6,7,8,9,10,11,12],[0,1,2,3,4,5,6,7,8,9,10,11,12,13],[0,1,2,3,4,5,6,7,8,9],[0,1,2,3,4,5,6,7,8,9],[0,1,2,3,4,5,6,7,8,9,15,16],[0,1,2,3,4,5,6,7,8,9,15,16,17],[0,1,2,3,4,5,6,7,8,9,15,16,17,18],[0,1,2,3,4,5,6,7,8,9,10,11,12,13,14,15,16,17,18,19],[0,1,2,3,4,5,6,7,8,9,10,11,12,13,14,15,16,17,18,19,20],[0,1,2,3,4,5,6,7,8,9,10,11,12,13,14,15,16,17,18,19,20,21],[0,1,2,3,4,5,6,7,8,9,10,11,12,13,14,15,16,17,18,19,20,21,22]] rfl (by kernel_rfl) (by kernel_rfl) (by kernel_rfl) ?_
     refine Xq Qz.move ?_;refine Xq Qz.move ?_;refine Xq Qz.lenN ?_;refine Xq Qz.cmpF ?_;refine Xq Qz.move ?_;refine Xg Qz.move ?_;refine Xg Qz.move ?_;refine Xg Qz.lenN ?_;refine Xg Qz.cmpT ?_;refine Xg Qz.move ?_;refine Xg Qz.move ?_;refine Xg Qz.move ?_;refine Xg Qz.indexN ?_;refine Xg Qz.fldE ?_;refine Xg Qz.loadEf ?_;refine Xg Qz.move ?_;refine Xg Qz.move ?_;refine Xg Qz.indexN ?_;refine Xg Qz.fldE ?_;refine Xg Qz.loadEf ?_;refine Xg (Qz.call (RmCmp_abs (tAt P i).m (tAt Q k).m)) ?_;refine Xg Qz.cmpF ?_;refine Xg Qz.pickT ?_;refine Xq Qz.pickF ?_;refine ⟨_,rfl,?_⟩
     apply Y0;refine Cf ?_;apply Ys;apply AWp.seq;apply AWp.seq
     refine AWp.dr' (DrawOk.self (by kernel_rfl)) [[],[],[(54,1)],[(53,0),(55,2)],[(56,3)],[],[],[(58,5),(59,6)],[(60,7)],[(61,8)],[],[],[(63,10),(64,11)],[(65,12)],[(66,13)],[(62,9),(67,14)],[(68,15)],[(57,4),(69,16)]] [[],[],[1],[0,1,2],[0,1,2,3],[0,1,2,3,4],[0,1,2,3,4],[0,1,2,3,4,5,6],[0,1,2,3,4,5,6,7],[0,1,2,3,4,5,6,7,8],[0,1,2,3,4],[0,1,2,3,4],[0,1,2,3,4,10,11],[0,1,2,3,4,10,11,12],[0,1,2,3,4,10,11,12,13],[0,1,2,3,4,5,6,7,8,9,10,11,12,13,14],[0,1,2,3,4,5,6,7,8,9,10,11,12,13,14,15],[0,1,2,3,4,5,6,7,8,9,10,11,12,13,14,15,16]] rfl (by kernel_rfl) (by kernel_rfl) (by kernel_rfl) ?_
     refine Xq Qz.move ?_;refine Xq Qz.move ?_;refine Xq Qz.lenN ?_;refine Xq Qz.cmpF ?_;refine Xq Qz.move ?_;refine Xg Qz.move ?_;refine Xg Qz.move ?_;refine Xg Qz.indexN ?_;refine Xg Qz.fldE ?_;refine Xg Qz.loadEf ?_;refine Xg Qz.move ?_;refine Xg Qz.move ?_;refine Xg Qz.indexN ?_;refine Xg Qz.fldE ?_;refine Xg Qz.loadEf ?_;refine Xg (Qz.call (RmCmp_abs (tAt P i).m (tAt Q k).m)) ?_;refine Xg Qz.cmpT ?_;refine Xq Qz.pickF ?_;refine ⟨_,rfl,?_⟩
     apply Y0;refine Ct ?_;apply Y1;refine Wm ?_;refine Wm ?_;refine Wm ?_;refine Wq Qz.indexN ?_;refine Wq Qz.loadEf ?_;(refine AWs.q rfl rfl ?_;refine ⟨_,Bq.slice1 (ao rfl) (tab_of rfl) (tab_of rfl) rfl rfl rfl rfl rfl,?_⟩);(refine AWs.app (ao rfl) rfl rfl (tab_of rfl) (tab_of rfl) rfl rfl (by simp;omega) (by simp;omega) rfl (by first | ((repeat (first | exact PlainHp.nil | refine PlainHp.var ?_ | refine PlainHp.row ?_ | refine PlainHp.dead ?_));done) | fail) rfl ?_);refine Wa ?_;apply Y0;apply Y1;refine Wm ?_;refine Wq Qz.succ ?_;refine Wa ?_;apply Y0;apply AWp.exit;apply AThen.exit;apply ABlock.hit
     refine ALoop.next ((P.length - i)+(Q.length - (k+1))) (by omega) ⟨i,k+1,R ++ [tAt Q k],by omega,by omega,?_,by simp;omega,rfl,rfl⟩ ?_
     ·rw [mrg_lt hc] at heq
      rw [← heq,hdP];simp
     ·exact AS.le_of (by refine Yd ?_;refine Yd ?_;refine FrLe.cons rfl (AVle.own rfl) ?_;refine Yd ?_;refine Yd ?_;exact FrLe.nil) (by refine HpLe.cons (OwLe.row (map_snoc tmC R (tAt Q k))) ?_;exact HpLe.nil)
    ·have hc' : lex8 (tAt P i).m (tAt Q k).m = 0 := by rw [← lx_lex]; exact hc
     by_cases hz:(tAt P i).c+(tAt Q k).c = 0
     ·have hsg:=num_sign0.2 hz
      apply AWp.seq;apply Y1;refine Wm ?_;refine Wm ?_;refine Wq Qz.lenN ?_;refine Wq Qz.cmpT ?_;refine Wm ?_;refine Ws ?_;refine Ws ?_;refine Ws ?_;refine Ws ?_;refine Wq Qz.pickT ?_;apply Y0;refine Ct ?_;apply Ys;apply AWp.block;apply AWp.seq;apply AWp.seq
      refine AWp.dr' (DrawOk.self (by kernel_rfl)) [[],[],[(21,1)],[(20,0),(22,2)],[(23,3)],[],[],[(26,6)],[(25,5),(27,7)],[(28,8)],[],[],[(30,10),(31,11)],[(32,12)],[(33,13)],[],[],[(35,15),(36,16)],[(37,17)],[(38,18)],[(34,14),(39,19)],[(40,20)],[(29,9),(41,21)],[(24,4),(42,22)]] [[],[],[1],[0,1,2],[0,1,2,3],[0,1,2,3,4],[0,1,2,3,4],[0,1,2,3,4,6],[0,1,2,3,4,5,6,7],[0,1,2,3,4,5,6,7,8],[0,1,2,3,4,5,6,7,8,9],[0,1,2,3,4,5,6,7,8,9],[0,1,2,3,4,5,6,7,8,9,10,11],[0,1,2,3,4,5,6,7,8,9,10,11,12],[0,1,2,3,4,5,6,7,8,9,10,11,12,13],[0,1,2,3,4,5,6,7,8,9],[0,1,2,3,4,5,6,7,8,9],[0,1,2,3,4,5,6,7,8,9,15,16],[0,1,2,3,4,5,6,7,8,9,15,16,17],[0,1,2,3,4,5,6,7,8,9,15,16,17,18],[0,1,2,3,4,5,6,7,8,9,10,11,12,13,14,15,16,17,18,19],[0,1,2,3,4,5,6,7,8,9,10,11,12,13,14,15,16,17,18,19,20],[0,1,2,3,4,5,6,7,8,9,10,11,12,13,14,15,16,17,18,19,20,21],[0,1,2,3,4,5,6,7,8,9,10,11,12,13,14,15,16,17,18,19,20,21,22]] rfl (by kernel_rfl) (by kernel_rfl) (by kernel_rfl) ?_
      refine Xq Qz.move ?_;refine Xq Qz.move ?_;refine Xq Qz.lenN ?_;refine Xq Qz.cmpF ?_;refine Xq Qz.move ?_;refine Xg Qz.move ?_;refine Xg Qz.move ?_;refine Xg Qz.lenN ?_;refine Xg Qz.cmpT ?_;refine Xg Qz.move ?_;refine Xg Qz.move ?_;refine Xg Qz.move ?_;refine Xg Qz.indexN ?_;refine Xg Qz.fldE ?_;refine Xg Qz.loadEf ?_;refine Xg Qz.move ?_;refine Xg Qz.move ?_;refine Xg Qz.indexN ?_;refine Xg Qz.fldE ?_;refine Xg Qz.loadEf ?_;refine Xg (Qz.call (RmCmp_abs (tAt P i).m (tAt Q k).m)) ?_;refine Xg Qz.cmpF ?_;refine Xg Qz.pickT ?_;refine Xq Qz.pickF ?_;refine ⟨_,rfl,?_⟩
      apply Y0;refine Cf ?_;apply Ys;apply AWp.seq;apply AWp.seq
      refine AWp.dr' (DrawOk.self (by kernel_rfl)) [[],[],[(54,1)],[(53,0),(55,2)],[(56,3)],[],[],[(58,5),(59,6)],[(60,7)],[(61,8)],[],[],[(63,10),(64,11)],[(65,12)],[(66,13)],[(62,9),(67,14)],[(68,15)],[(57,4),(69,16)]] [[],[],[1],[0,1,2],[0,1,2,3],[0,1,2,3,4],[0,1,2,3,4],[0,1,2,3,4,5,6],[0,1,2,3,4,5,6,7],[0,1,2,3,4,5,6,7,8],[0,1,2,3,4],[0,1,2,3,4],[0,1,2,3,4,10,11],[0,1,2,3,4,10,11,12],[0,1,2,3,4,10,11,12,13],[0,1,2,3,4,5,6,7,8,9,10,11,12,13,14],[0,1,2,3,4,5,6,7,8,9,10,11,12,13,14,15],[0,1,2,3,4,5,6,7,8,9,10,11,12,13,14,15,16]] rfl (by kernel_rfl) (by kernel_rfl) (by kernel_rfl) ?_
      refine Xq Qz.move ?_;refine Xq Qz.move ?_;refine Xq Qz.lenN ?_;refine Xq Qz.cmpF ?_;refine Xq Qz.move ?_;refine Xg Qz.move ?_;refine Xg Qz.move ?_;refine Xg Qz.indexN ?_;refine Xg Qz.fldE ?_;refine Xg Qz.loadEf ?_;refine Xg Qz.move ?_;refine Xg Qz.move ?_;refine Xg Qz.indexN ?_;refine Xg Qz.fldE ?_;refine Xg Qz.loadEf ?_;refine Xg (Qz.call (RmCmp_abs (tAt P i).m (tAt Q k).m)) ?_;refine Xg Qz.cmpF ?_;refine Xq Qz.pickF ?_;refine ⟨_,rfl,?_⟩
      apply Y0;refine Cf ?_;apply Ys;apply AWp.seq
      refine AWp.dr' (DrawOk.self (by kernel_rfl)) [[],[],[(80,0),(81,1)],[(82,2)],[(83,3)],[],[],[(85,5),(86,6)],[(87,7)],[(88,8)],[(84,4),(89,9)],[]] [[],[],[0,1],[0,1,2],[0,1,2,3],[],[],[5,6],[5,6,7],[5,6,7,8],[0,1,2,3,4,5,6,7,8,9],[]] rfl (by kernel_rfl) (by kernel_rfl) (by kernel_rfl) ?_
      refine Xq Qz.move ?_;refine Xq Qz.move ?_;refine Xq Qz.indexN ?_;refine Xq Qz.fldE ?_;refine Xq Qz.ldE ?_;refine Xq Qz.move ?_;refine Xq Qz.move ?_;refine Xq Qz.indexN ?_;refine Xq Qz.fldE ?_;refine Xq Qz.ldE ?_;refine Xq (Qz.call (RAdd_abs (tAt P i).c (tAt Q k).c N M hs ht hNM)) ?_;refine Xn ?_;refine ⟨_,rfl,?_⟩
      refine Sf ?_;apply Y0;apply AWp.seq;apply Y1;refine Wq Qz.ldD ?_;refine Wq (Qz.call (RSign_abs ((tAt P i).c+(tAt Q k).c))) ?_;refine Wq Qz.cmpF ?_;apply Y0;refine Cf ?_;apply Ys;apply Y1;refine Wm ?_;refine Wq Qz.succ ?_;refine Wa ?_;apply Y0;apply AWp.region;refine Wm ?_;refine Wq Qz.succ ?_;refine Wa ?_;apply AWl.nil;apply ABlock.normal
      refine ALoop.next ((P.length - (i+1))+(Q.length - (k+1))) (by omega) ⟨i+1,k+1,R,by omega,by omega,?_,by omega,rfl,rfl⟩ ?_
      ·rw [mrg_eq hc,if_pos hz] at heq
       exact heq
      ·exact AS.le_of (by refine Yd ?_;refine Yd ?_;refine FrLe.cons rfl (AVle.own rfl) ?_;refine Yd ?_;refine Yd ?_;exact FrLe.nil) (by apply Yr;exact HpLe.nil)
     ·have hsg:((tAt P i).c+(tAt Q k).c).num.sign ≠ 0:=fun e=>hz (num_sign0.1 e)
      apply AWp.seq;apply Y1;refine Wm ?_;refine Wm ?_;refine Wq Qz.lenN ?_;refine Wq Qz.cmpT ?_;refine Wm ?_;refine Ws ?_;refine Ws ?_;refine Ws ?_;refine Ws ?_;refine Wq Qz.pickT ?_;apply Y0;refine Ct ?_;apply Ys;apply AWp.block;apply AWp.seq;apply AWp.seq
      refine AWp.dr' (DrawOk.self (by kernel_rfl)) [[],[],[(21,1)],[(20,0),(22,2)],[(23,3)],[],[],[(26,6)],[(25,5),(27,7)],[(28,8)],[],[],[(30,10),(31,11)],[(32,12)],[(33,13)],[],[],[(35,15),(36,16)],[(37,17)],[(38,18)],[(34,14),(39,19)],[(40,20)],[(29,9),(41,21)],[(24,4),(42,22)]] [[],[],[1],[0,1,2],[0,1,2,3],[0,1,2,3,4],[0,1,2,3,4],[0,1,2,3,4,6],[0,1,2,3,4,5,6,7],[0,1,2,3,4,5,6,7,8],[0,1,2,3,4,5,6,7,8,9],[0,1,2,3,4,5,6,7,8,9],[0,1,2,3,4,5,6,7,8,9,10,11],[0,1,2,3,4,5,6,7,8,9,10,11,12],[0,1,2,3,4,5,6,7,8,9,10,11,12,13],[0,1,2,3,4,5,6,7,8,9],[0,1,2,3,4,5,6,7,8,9],[0,1,2,3,4,5,6,7,8,9,15,16],[0,1,2,3,4,5,6,7,8,9,15,16,17],[0,1,2,3,4,5,6,7,8,9,15,16,17,18],[0,1,2,3,4,5,6,7,8,9,10,11,12,13,14,15,16,17,18,19],[0,1,2,3,4,5,6,7,8,9,10,11,12,13,14,15,16,17,18,19,20],[0,1,2,3,4,5,6,7,8,9,10,11,12,13,14,15,16,17,18,19,20,21],[0,1,2,3,4,5,6,7,8,9,10,11,12,13,14,15,16,17,18,19,20,21,22]] rfl (by kernel_rfl) (by kernel_rfl) (by kernel_rfl) ?_
      refine Xq Qz.move ?_;refine Xq Qz.move ?_;refine Xq Qz.lenN ?_;refine Xq Qz.cmpF ?_;refine Xq Qz.move ?_;refine Xg Qz.move ?_;refine Xg Qz.move ?_;refine Xg Qz.lenN ?_;refine Xg Qz.cmpT ?_;refine Xg Qz.move ?_;refine Xg Qz.move ?_;refine Xg Qz.move ?_;refine Xg Qz.indexN ?_;refine Xg Qz.fldE ?_;refine Xg Qz.loadEf ?_;refine Xg Qz.move ?_;refine Xg Qz.move ?_;refine Xg Qz.indexN ?_;refine Xg Qz.fldE ?_;refine Xg Qz.loadEf ?_;refine Xg (Qz.call (RmCmp_abs (tAt P i).m (tAt Q k).m)) ?_;refine Xg Qz.cmpF ?_;refine Xg Qz.pickT ?_;refine Xq Qz.pickF ?_;refine ⟨_,rfl,?_⟩
      apply Y0;refine Cf ?_;apply Ys;apply AWp.seq;apply AWp.seq
      refine AWp.dr' (DrawOk.self (by kernel_rfl)) [[],[],[(54,1)],[(53,0),(55,2)],[(56,3)],[],[],[(58,5),(59,6)],[(60,7)],[(61,8)],[],[],[(63,10),(64,11)],[(65,12)],[(66,13)],[(62,9),(67,14)],[(68,15)],[(57,4),(69,16)]] [[],[],[1],[0,1,2],[0,1,2,3],[0,1,2,3,4],[0,1,2,3,4],[0,1,2,3,4,5,6],[0,1,2,3,4,5,6,7],[0,1,2,3,4,5,6,7,8],[0,1,2,3,4],[0,1,2,3,4],[0,1,2,3,4,10,11],[0,1,2,3,4,10,11,12],[0,1,2,3,4,10,11,12,13],[0,1,2,3,4,5,6,7,8,9,10,11,12,13,14],[0,1,2,3,4,5,6,7,8,9,10,11,12,13,14,15],[0,1,2,3,4,5,6,7,8,9,10,11,12,13,14,15,16]] rfl (by kernel_rfl) (by kernel_rfl) (by kernel_rfl) ?_
      refine Xq Qz.move ?_;refine Xq Qz.move ?_;refine Xq Qz.lenN ?_;refine Xq Qz.cmpF ?_;refine Xq Qz.move ?_;refine Xg Qz.move ?_;refine Xg Qz.move ?_;refine Xg Qz.indexN ?_;refine Xg Qz.fldE ?_;refine Xg Qz.loadEf ?_;refine Xg Qz.move ?_;refine Xg Qz.move ?_;refine Xg Qz.indexN ?_;refine Xg Qz.fldE ?_;refine Xg Qz.loadEf ?_;refine Xg (Qz.call (RmCmp_abs (tAt P i).m (tAt Q k).m)) ?_;refine Xg Qz.cmpF ?_;refine Xq Qz.pickF ?_;refine ⟨_,rfl,?_⟩
      apply Y0;refine Cf ?_;apply Ys;apply AWp.seq
      refine AWp.dr' (DrawOk.self (by kernel_rfl)) [[],[],[(80,0),(81,1)],[(82,2)],[(83,3)],[],[],[(85,5),(86,6)],[(87,7)],[(88,8)],[(84,4),(89,9)],[]] [[],[],[0,1],[0,1,2],[0,1,2,3],[],[],[5,6],[5,6,7],[5,6,7,8],[0,1,2,3,4,5,6,7,8,9],[]] rfl (by kernel_rfl) (by kernel_rfl) (by kernel_rfl) ?_
      refine Xq Qz.move ?_;refine Xq Qz.move ?_;refine Xq Qz.indexN ?_;refine Xq Qz.fldE ?_;refine Xq Qz.ldE ?_;refine Xq Qz.move ?_;refine Xq Qz.move ?_;refine Xq Qz.indexN ?_;refine Xq Qz.fldE ?_;refine Xq Qz.ldE ?_;refine Xq (Qz.call (RAdd_abs (tAt P i).c (tAt Q k).c N M hs ht hNM)) ?_;refine Xn ?_;refine ⟨_,rfl,?_⟩
      refine Sf ?_;apply Y0;apply AWp.seq;apply Y1;refine Wq Qz.ldD ?_;refine Wq (Qz.call (RSign_abs ((tAt P i).c+(tAt Q k).c))) ?_;refine Wq Qz.cmpT ?_;apply Y0;refine Ct ?_
      refine AWp.dr' (DrawOk.self (by kernel_rfl)) [[],[],[],[],[(96,2),(97,3)],[(98,4)],[(99,5)],[(95,1),(100,6)],[(101,7)]] [[],[],[],[],[2,3],[2,3,4],[2,3,4,5],[1,2,3,4,5,6],[1,2,3,4,5,6,7]] rfl (by kernel_rfl) (by kernel_rfl) (by kernel_rfl) ?_
      refine Xq Qz.move ?_;refine Xq Qz.ldD ?_;refine Xq Qz.move ?_;refine Xq Qz.move ?_;refine Xq Qz.indexN ?_;refine Xq Qz.fldE ?_;refine Xq Qz.loadEf ?_;(refine Hq rfl ?_;refine Bq.build (tab_of rfl) rfl rfl rfl ?_;(repeat ((first | refine ⟨_,PartOk.ag (ah rfl),?_⟩ | refine ⟨_,PartOk.one rfl (by first | exact One.ex_ rfl | exact One.sl | exact One.ep),?_⟩);refine ⟨_,rfl,?_⟩));refine ⟨_,rfl,?_⟩;refine ⟨_,rfl,?_⟩);(refine ⟨_,HStep.q rfl (Bq.slice1 (ah rfl) (tab_of rfl) (tab_of rfl) rfl rfl rfl rfl rfl),?_⟩;refine ⟨_,rfl,?_⟩);refine ⟨_,rfl,?_⟩
      (refine AWs.app (ao rfl) rfl rfl (tab_of rfl) (tab_of rfl) rfl rfl (by simp;omega) (by simp;omega) rfl (by first | ((repeat (first | exact PlainHp.nil | refine PlainHp.var ?_ | refine PlainHp.row ?_ | refine PlainHp.dead ?_));done) | fail) rfl ?_);refine Wa ?_;apply Y0;apply Y1;refine Wm ?_;refine Wq Qz.succ ?_;refine Wa ?_;apply Y0;apply AWp.region;refine Wm ?_;refine Wq Qz.succ ?_;refine Wa ?_;apply AWl.nil;apply ABlock.normal
      refine ALoop.next ((P.length - (i+1))+(Q.length - (k+1))) (by omega) ⟨i+1,k+1,R ++ [⟨(tAt P i).c+(tAt Q k).c,(tAt P i).m⟩],by omega,by omega,?_,by simp;omega,rfl,rfl⟩ ?_
      ·rw [mrg_eq hc,if_neg hz] at heq
       rw [← heq];simp
      ·exact AS.le_of (by refine Yd ?_;refine Yd ?_;refine FrLe.cons rfl (AVle.own rfl) ?_;refine Yd ?_;refine Yd ?_;exact FrLe.nil) (by refine HpLe.cons (OwLe.row (map_snoc tmC R ⟨(tAt P i).c+(tAt Q k).c,(tAt P i).m⟩)) ?_;exact HpLe.nil)
    ·have hc' : lex8 (tAt P i).m (tAt Q k).m = 1 := by rw [← lx_lex]; exact hc
     apply AWp.seq;apply Y1;refine Wm ?_;refine Wm ?_;refine Wq Qz.lenN ?_;refine Wq Qz.cmpT ?_;refine Wm ?_;refine Ws ?_;refine Ws ?_;refine Ws ?_;refine Ws ?_;refine Wq Qz.pickT ?_;apply Y0;refine Ct ?_;apply Ys;apply AWp.block;apply AWp.seq;apply AWp.seq
     refine AWp.dr' (DrawOk.self (by kernel_rfl)) [[],[],[(21,1)],[(20,0),(22,2)],[(23,3)],[],[],[(26,6)],[(25,5),(27,7)],[(28,8)],[],[],[(30,10),(31,11)],[(32,12)],[(33,13)],[],[],[(35,15),(36,16)],[(37,17)],[(38,18)],[(34,14),(39,19)],[(40,20)],[(29,9),(41,21)],[(24,4),(42,22)]] [[],[],[1],[0,1,2],[0,1,2,3],[0,1,2,3,4],[0,1,2,3,4],[0,1,2,3,4,6],[0,1,2,3,4,5,6,7],[0,1,2,3,4,5,6,7,8],[0,1,2,3,4,5,6,7,8,9],[0,1,2,3,4,5,6,7,8,9],[0,1,2,3,4,5,6,7,8,9,10,11],[0,1,2,3,4,5,6,7,8,9,10,11,12],[0,1,2,3,4,5,6,7,8,9,10,11,12,13],[0,1,2,3,4,5,6,7,8,9],[0,1,2,3,4,5,6,7,8,9],[0,1,2,3,4,5,6,7,8,9,15,16],[0,1,2,3,4,5,6,7,8,9,15,16,17],[0,1,2,3,4,5,6,7,8,9,15,16,17,18],[0,1,2,3,4,5,6,7,8,9,10,11,12,13,14,15,16,17,18,19],[0,1,2,3,4,5,6,7,8,9,10,11,12,13,14,15,16,17,18,19,20],[0,1,2,3,4,5,6,7,8,9,10,11,12,13,14,15,16,17,18,19,20,21],[0,1,2,3,4,5,6,7,8,9,10,11,12,13,14,15,16,17,18,19,20,21,22]] rfl (by kernel_rfl) (by kernel_rfl) (by kernel_rfl) ?_
     refine Xq Qz.move ?_;refine Xq Qz.move ?_;refine Xq Qz.lenN ?_;refine Xq Qz.cmpF ?_;refine Xq Qz.move ?_;refine Xg Qz.move ?_;refine Xg Qz.move ?_;refine Xg Qz.lenN ?_;refine Xg Qz.cmpT ?_;refine Xg Qz.move ?_;refine Xg Qz.move ?_;refine Xg Qz.move ?_;refine Xg Qz.indexN ?_;refine Xg Qz.fldE ?_;refine Xg Qz.loadEf ?_;refine Xg Qz.move ?_;refine Xg Qz.move ?_;refine Xg Qz.indexN ?_;refine Xg Qz.fldE ?_;refine Xg Qz.loadEf ?_;refine Xg (Qz.call (RmCmp_abs (tAt P i).m (tAt Q k).m)) ?_;refine Xg Qz.cmpT ?_;refine Xg Qz.pickT ?_;refine Xq Qz.pickF ?_;refine ⟨_,rfl,?_⟩
     apply Y0;refine Ct ?_;apply Y1;refine Wm ?_;refine Wm ?_;refine Wm ?_;refine Wq Qz.indexN ?_;refine Wq Qz.loadEf ?_;(refine AWs.q rfl rfl ?_;refine ⟨_,Bq.slice1 (ao rfl) (tab_of rfl) (tab_of rfl) rfl rfl rfl rfl rfl,?_⟩);(refine AWs.app (ao rfl) rfl rfl (tab_of rfl) (tab_of rfl) rfl rfl (by simp;omega) (by simp;omega) rfl (by first | ((repeat (first | exact PlainHp.nil | refine PlainHp.var ?_ | refine PlainHp.row ?_ | refine PlainHp.dead ?_));done) | fail) rfl ?_);refine Wa ?_;apply Y0;apply Y1;refine Wm ?_;refine Wq Qz.succ ?_;refine Wa ?_;apply Y0;apply AWp.exit;apply AThen.exit;apply ABlock.hit
     refine ALoop.next ((P.length - (i+1))+(Q.length - k)) (by omega) ⟨i+1,k,R ++ [tAt P i],by omega,by omega,?_,by simp;omega,rfl,rfl⟩ ?_
     ·rw [mrg_gt hc] at heq
      rw [← heq,hdQ];simp
     ·exact AS.le_of (by refine Yd ?_;refine Yd ?_;refine FrLe.cons rfl (AVle.own rfl) ?_;refine Yd ?_;refine Yd ?_;exact FrLe.nil) (by refine HpLe.cons (OwLe.row (map_snoc tmC R (tAt P i))) ?_;exact HpLe.nil)
   ·apply AWp.seq;apply Y1;refine Wm ?_;refine Wm ?_;refine Wq Qz.lenN ?_;refine Wq Qz.cmpT ?_;refine Wm ?_;refine Ws ?_;refine Ws ?_;refine Ws ?_;refine Ws ?_;refine Wq Qz.pickT ?_;apply Y0;refine Ct ?_;apply Ys;apply AWp.block;apply AWp.seq;apply AWp.seq
    refine AWp.dr' (DrawOk.self (by kernel_rfl)) [[],[],[(21,1)],[(20,0),(22,2)],[(23,3)],[],[],[(26,6)],[(25,5),(27,7)],[(28,8)],[],[],[(30,10),(31,11)],[(32,12)],[(33,13)],[],[],[(35,15),(36,16)],[(37,17)],[(38,18)],[(34,14),(39,19)],[(40,20)],[(29,9),(41,21)],[(24,4),(42,22)]] [[],[],[1],[0,1,2],[0,1,2,3],[0,1,2,3,4],[0,1,2,3,4],[0,1,2,3,4,6],[0,1,2,3,4,5,6,7],[0,1,2,3,4,5,6,7,8],[0,1,2,3,4,5,6,7,8,9],[0,1,2,3,4,5,6,7,8,9],[0,1,2,3,4,5,6,7,8,9,10,11],[0,1,2,3,4,5,6,7,8,9,10,11,12],[0,1,2,3,4,5,6,7,8,9,10,11,12,13],[0,1,2,3,4,5,6,7,8,9],[0,1,2,3,4,5,6,7,8,9],[0,1,2,3,4,5,6,7,8,9,15,16],[0,1,2,3,4,5,6,7,8,9,15,16,17],[0,1,2,3,4,5,6,7,8,9,15,16,17,18],[0,1,2,3,4,5,6,7,8,9,10,11,12,13,14,15,16,17,18,19],[0,1,2,3,4,5,6,7,8,9,10,11,12,13,14,15,16,17,18,19,20],[0,1,2,3,4,5,6,7,8,9,10,11,12,13,14,15,16,17,18,19,20,21],[0,1,2,3,4,5,6,7,8,9,10,11,12,13,14,15,16,17,18,19,20,21,22]] rfl (by kernel_rfl) (by kernel_rfl) (by kernel_rfl) ?_
    refine Xq Qz.move ?_;refine Xq Qz.move ?_;refine Xq Qz.lenN ?_;refine Xq Qz.cmpT ?_;refine Xq Qz.move ?_;refine Xs ?_;refine Xs ?_;refine Xs ?_;refine Xs ?_;refine Xs ?_;refine Xs ?_;refine Xs ?_;refine Xs ?_;refine Xs ?_;refine Xs ?_;refine Xs ?_;refine Xs ?_;refine Xs ?_;refine Xs ?_;refine Xs ?_;refine Xs ?_;refine Xs ?_;refine Xs ?_;refine Xq Qz.pickT ?_;refine ⟨_,rfl,?_⟩
    apply Y0;refine Ct ?_;apply Y1;refine Wm ?_;refine Wm ?_;refine Wm ?_;refine Wq Qz.indexN ?_;refine Wq Qz.loadEf ?_;(refine AWs.q rfl rfl ?_;refine ⟨_,Bq.slice1 (ao rfl) (tab_of rfl) (tab_of rfl) rfl rfl rfl rfl rfl,?_⟩);(refine AWs.app (ao rfl) rfl rfl (tab_of rfl) (tab_of rfl) rfl rfl (by simp;omega) (by simp;omega) rfl (by first | ((repeat (first | exact PlainHp.nil | refine PlainHp.var ?_ | refine PlainHp.row ?_ | refine PlainHp.dead ?_));done) | fail) rfl ?_);refine Wa ?_;apply Y0;apply Y1;refine Wm ?_;refine Wq Qz.succ ?_;refine Wa ?_;apply Y0;apply AWp.exit;apply AThen.exit;apply ABlock.hit
    refine ALoop.next ((P.length - (i+1))+(Q.length - k)) (by omega) ⟨i+1,k,R ++ [tAt P i],by omega,by omega,?_,by simp;omega,rfl,rfl⟩ ?_
    ·have hq : Q.drop k = [] := List.drop_eq_nil_of_le (by omega)
     rw [hdP,hq,mrg_nil] at heq
     rw [← heq,hq,mrg_nil];simp
    ·exact AS.le_of (by refine Yd ?_;refine Yd ?_;refine FrLe.cons rfl (AVle.own rfl) ?_;refine Yd ?_;refine Yd ?_;exact FrLe.nil) (by refine HpLe.cons (OwLe.row (map_snoc tmC R (tAt P i))) ?_;exact HpLe.nil)
  ·have hp : P.drop i = [] := List.drop_eq_nil_of_le (by omega)
   by_cases hkq:k<Q.length
   ·have hdQ:=drop_tAt hkq
    apply AWp.seq;apply Y1;refine Wm ?_;refine Wm ?_;refine Wq Qz.lenN ?_;refine Wq Qz.cmpF ?_;refine Wm ?_;refine Wg Qz.move ?_;refine Wg Qz.move ?_;refine Wg Qz.lenN ?_;refine Wg Qz.cmpT ?_;refine Wq Qz.pickF ?_;apply Y0;refine Ct ?_;apply Ys;apply AWp.block;apply AWp.seq;apply AWp.seq
    refine AWp.dr' (DrawOk.self (by kernel_rfl)) [[],[],[(21,1)],[(20,0),(22,2)],[(23,3)],[],[],[(26,6)],[(25,5),(27,7)],[(28,8)],[],[],[(30,10),(31,11)],[(32,12)],[(33,13)],[],[],[(35,15),(36,16)],[(37,17)],[(38,18)],[(34,14),(39,19)],[(40,20)],[(29,9),(41,21)],[(24,4),(42,22)]] [[],[],[1],[0,1,2],[0,1,2,3],[0,1,2,3,4],[0,1,2,3,4],[0,1,2,3,4,6],[0,1,2,3,4,5,6,7],[0,1,2,3,4,5,6,7,8],[0,1,2,3,4,5,6,7,8,9],[0,1,2,3,4,5,6,7,8,9],[0,1,2,3,4,5,6,7,8,9,10,11],[0,1,2,3,4,5,6,7,8,9,10,11,12],[0,1,2,3,4,5,6,7,8,9,10,11,12,13],[0,1,2,3,4,5,6,7,8,9],[0,1,2,3,4,5,6,7,8,9],[0,1,2,3,4,5,6,7,8,9,15,16],[0,1,2,3,4,5,6,7,8,9,15,16,17],[0,1,2,3,4,5,6,7,8,9,15,16,17,18],[0,1,2,3,4,5,6,7,8,9,10,11,12,13,14,15,16,17,18,19],[0,1,2,3,4,5,6,7,8,9,10,11,12,13,14,15,16,17,18,19,20],[0,1,2,3,4,5,6,7,8,9,10,11,12,13,14,15,16,17,18,19,20,21],[0,1,2,3,4,5,6,7,8,9,10,11,12,13,14,15,16,17,18,19,20,21,22]] rfl (by kernel_rfl) (by kernel_rfl) (by kernel_rfl) ?_
    refine Xq Qz.move ?_;refine Xq Qz.move ?_;refine Xq Qz.lenN ?_;refine Xq Qz.cmpF ?_;refine Xq Qz.move ?_;refine Xg Qz.move ?_;refine Xg Qz.move ?_;refine Xg Qz.lenN ?_;refine Xg Qz.cmpF ?_;refine Xg Qz.move ?_;refine Xs ?_;refine Xs ?_;refine Xs ?_;refine Xs ?_;refine Xs ?_;refine Xs ?_;refine Xs ?_;refine Xs ?_;refine Xs ?_;refine Xs ?_;refine Xs ?_;refine Xs ?_;refine Xg Qz.pickF ?_;refine Xq Qz.pickF ?_;refine ⟨_,rfl,?_⟩
    apply Y0;refine Cf ?_;apply Ys;apply AWp.seq;apply AWp.seq
    refine AWp.dr' (DrawOk.self (by kernel_rfl)) [[],[],[(54,1)],[(53,0),(55,2)],[(56,3)],[],[],[(58,5),(59,6)],[(60,7)],[(61,8)],[],[],[(63,10),(64,11)],[(65,12)],[(66,13)],[(62,9),(67,14)],[(68,15)],[(57,4),(69,16)]] [[],[],[1],[0,1,2],[0,1,2,3],[0,1,2,3,4],[0,1,2,3,4],[0,1,2,3,4,5,6],[0,1,2,3,4,5,6,7],[0,1,2,3,4,5,6,7,8],[0,1,2,3,4],[0,1,2,3,4],[0,1,2,3,4,10,11],[0,1,2,3,4,10,11,12],[0,1,2,3,4,10,11,12,13],[0,1,2,3,4,5,6,7,8,9,10,11,12,13,14],[0,1,2,3,4,5,6,7,8,9,10,11,12,13,14,15],[0,1,2,3,4,5,6,7,8,9,10,11,12,13,14,15,16]] rfl (by kernel_rfl) (by kernel_rfl) (by kernel_rfl) ?_
    refine Xq Qz.move ?_;refine Xq Qz.move ?_;refine Xq Qz.lenN ?_;refine Xq Qz.cmpT ?_;refine Xq Qz.move ?_;refine Xs ?_;refine Xs ?_;refine Xs ?_;refine Xs ?_;refine Xs ?_;refine Xs ?_;refine Xs ?_;refine Xs ?_;refine Xs ?_;refine Xs ?_;refine Xs ?_;refine Xs ?_;refine Xq Qz.pickT ?_;refine ⟨_,rfl,?_⟩
    apply Y0;refine Ct ?_;apply Y1;refine Wm ?_;refine Wm ?_;refine Wm ?_;refine Wq Qz.indexN ?_;refine Wq Qz.loadEf ?_;(refine AWs.q rfl rfl ?_;refine ⟨_,Bq.slice1 (ao rfl) (tab_of rfl) (tab_of rfl) rfl rfl rfl rfl rfl,?_⟩);(refine AWs.app (ao rfl) rfl rfl (tab_of rfl) (tab_of rfl) rfl rfl (by simp;omega) (by simp;omega) rfl (by first | ((repeat (first | exact PlainHp.nil | refine PlainHp.var ?_ | refine PlainHp.row ?_ | refine PlainHp.dead ?_));done) | fail) rfl ?_);refine Wa ?_;apply Y0;apply Y1;refine Wm ?_;refine Wq Qz.succ ?_;refine Wa ?_;apply Y0;apply AWp.exit;apply AThen.exit;apply ABlock.hit
    refine ALoop.next ((P.length - i)+(Q.length - (k+1))) (by omega) ⟨i,k+1,R ++ [tAt Q k],by omega,by omega,?_,by simp;omega,rfl,rfl⟩ ?_
    ·rw [hdQ,hp,nil_mrg] at heq
     rw [← heq,hp,nil_mrg];simp
    ·exact AS.le_of (by refine Yd ?_;refine Yd ?_;refine FrLe.cons rfl (AVle.own rfl) ?_;refine Yd ?_;refine Yd ?_;exact FrLe.nil) (by refine HpLe.cons (OwLe.row (map_snoc tmC R (tAt Q k))) ?_;exact HpLe.nil)
   ·apply AWp.seq;apply Y1;refine Wm ?_;refine Wm ?_;refine Wq Qz.lenN ?_;refine Wq Qz.cmpF ?_;refine Wm ?_;refine Wg Qz.move ?_;refine Wg Qz.move ?_;refine Wg Qz.lenN ?_;refine Wg Qz.cmpF ?_;refine Wq Qz.pickF ?_;apply Y0;refine Cf ?_;apply AWp.exit;apply AThen.exit;apply ALoop.exit;apply ABlock.hit;apply Yn;apply Y1;refine Wm ?_;refine Wa ?_;apply Y0;apply AWp.ret
    have hq:Q.drop k = []:=List.drop_eq_nil_of_le (by omega)
    exact Fin.ret (Rets.of1 (ResV.tmp rfl rfl) (D.le.of_eq (by rw [← heq,hp,hq,nil_mrg,List.append_nil];rfl)))
theorem RTimes0_abs (c : Rat) (m:Nat→Int) (P:List Tm) (hc:c = 0):Abs Tryz.prog 52 [agD (ratC c),agD (monC m),polD P] (tupD [polD [],ex (.int .i64 0)]):=by
 have hs:=num_sign0.2 hc
 refine Ab Tryz.func52 fun s0=>?_
 rw [Tryz.ntmps52]
 apply Y1;refine AWs.bx (ao rfl) rfl rfl rfl rfl ?_;refine AWs.bx (ao rfl) rfl rfl rfl rfl ?_;refine Wa ?_;refine Wa ?_;apply Y0;apply Y1;refine AWs.b0 (tab_of rfl) (tab_of rfl) rfl rfl rfl rfl rfl ?_;refine Wa ?_;apply Y0;apply AWp.seq;apply Y1;refine Wq Qz.ldD ?_;refine Wq (Qz.call (RSign_abs c)) ?_;refine Wq Qz.cmpT ?_;apply Y0;refine Ct ?_;apply Y1;refine Wa ?_;refine Wa ?_;apply Y0;apply AWp.ret;apply AThen.ret
 exact Fin.ret (Rets.of2 (ResV.tmp rfl rfl) (ResV.tmp rfl rfl) (D.le.tup2 (D.le_nilP) (D.le.refl _)))
theorem RTimes_abs (c : Rat) (m:Nat→Int) (P:List Tm) (N M:Nat) (hc:c ≠ 0) (hcs:RSz c N) (hm:In8 m 0 65535) (hP:PSz P M) (hPi:PIn P 0 65535) (hmP:∀ t∈P,In8 (add8 m t.m) 0 65535) (hn:P.length≤100000) (hNM:N+M≤4398046511103):Abs Tryz.prog 52 [agD (ratC c),agD (monC m),polD P] (tupD [polD (tms c m P),ex (.int .i64 0)]):=by
 have hs:c.num.sign ≠ 0:=fun e=>hc (num_sign0.1 e)
 refine Ab Tryz.func52 fun s0=>?_
 rw [Tryz.ntmps52]
 apply Y1;refine AWs.bx (ao rfl) rfl rfl rfl rfl ?_;refine AWs.bx (ao rfl) rfl rfl rfl rfl ?_;refine Wa ?_;refine Wa ?_;apply Y0;apply Y1;refine AWs.b0 (tab_of rfl) (tab_of rfl) rfl rfl rfl rfl rfl ?_;refine Wa ?_;apply Y0;apply AWp.seq;apply Y1;refine Wq Qz.ldD ?_;refine Wq (Qz.call (RSign_abs c)) ?_;refine Wq Qz.cmpF ?_;apply Y0;refine Cf ?_;apply Ys;apply AWp.seq;apply Y1;refine Wa ?_;apply Y0;apply AWp.block
 refine AWp.loop (fun mz σ=>∃ k,k≤P.length∧mz = P.length - k∧σ = ⟨[(2,.d (polD P)),(3,.ptr 0 0),(4,.ptr 1 0),(8,.own 2),(9,.d (ex (.int .i64 (k:Nat))))],[.var 29 ((ratC c).map .d),.var 31 ((monC m).map .d),.row 33 12 ((tms c m (P.take k)).map tmC)]⟩) ?le ⟨0,by omega,rfl,rfl⟩ ?round
 case le=>exact AS.le_of (by refine Yd ?_;refine Yp ?_;refine Yp ?_;refine FrLe.cons rfl (AVle.own rfl) ?_;refine Yd ?_;exact FrLe.nil) (by apply Yv;apply Yv;apply Yr;exact HpLe.nil)
 case round =>
  rintro mz _ ⟨k,hk,rfl,rfl⟩
  by_cases hlt:k<P.length
  ·have ht:=tAt_mem hlt
   have htk:=take_tAt hlt
   apply AWp.seq;apply Y1;refine Wm ?_;refine Wm ?_;refine Wq Qz.lenN ?_;refine Wq Qz.cmpT ?_;apply Y0;refine Ct ?_;apply Ys;apply AWp.seq;apply AWp.block;apply AWp.seq
   refine AWp.dr' (DrawOk.float (e:=9) (by kernel_rfl) (K4 (K4 (AddE.keep (AddE.keep (AddE.keep (AddE.add (AddE.keep AddE.nil))))))) (by kernel_rfl)) [[],[],[],[(24,1),(25,2)],[(26,3)],[(27,4)],[(23,0),(28,5)],[(29,6)],[(22,7)],[(22,7)],[]] [[],[],[],[1,2],[1,2,3],[1,2,3,4],[0,1,2,3,4,5],[0,1,2,3,4,5,6],[0,1,2,3,4,5,6,7],[0,1,2,3,4,5,6,7],[]] rfl (by kernel_rfl) (by kernel_rfl) (by kernel_rfl) ?_
   refine Xq Qz.ldD ?_;refine Xq Qz.move ?_;refine Xq Qz.move ?_;refine Xq Qz.indexN ?_;refine Xq Qz.fldE ?_;refine Xq Qz.loadEf ?_;refine Xq (Qz.call (RmMul_abs m (tAt P k).m hm (hPi _ ht) (hmP _ ht))) ?_;refine Xq Qz.move ?_;refine Xq Qz.ext ?_;refine Xq Qz.ext ?_;refine Xn ?_;refine ⟨_,rfl,?_⟩
   refine Sf ?_;refine Wa ?_;apply AWl.nil;apply OnlyN.mk';apply Yn;apply AWp.seq;apply Y1;refine Wm ?_;refine Wq Qz.cmpF ?_;apply Y0;refine Cf ?_;apply Ys
   refine AWp.dr' (DrawOk.self (by kernel_rfl)) [[],[],[],[],[(36,2),(37,3)],[(38,4)],[(39,5)],[(35,1),(40,6)],[],[(41,7),(42,8)],[(43,9)]] [[],[],[],[],[2,3],[2,3,4],[2,3,4,5],[1,2,3,4,5,6],[],[1,2,3,4,5,6,7,8],[1,2,3,4,5,6,7,8,9]] rfl (by kernel_rfl) (by kernel_rfl) (by kernel_rfl) ?_
   refine Xq Qz.move ?_;refine Xq Qz.ldD ?_;refine Xq Qz.move ?_;refine Xq Qz.move ?_;refine Xq Qz.indexN ?_;refine Xq Qz.fldE ?_;refine Xq Qz.ldE ?_;refine Xq (Qz.call (RMul_abs c (tAt P k).c N M hcs (hP _ ht) hNM)) ?_;refine Xq Qz.ldD ?_;(refine Hq rfl ?_;refine Bq.build (tab_of rfl) rfl rfl rfl ?_;(repeat ((first | refine ⟨_,PartOk.ag (ah rfl),?_⟩ | refine ⟨_,PartOk.one rfl (by first | exact One.ex_ rfl | exact One.sl | exact One.ep),?_⟩);refine ⟨_,rfl,?_⟩));refine ⟨_,rfl,?_⟩;refine ⟨_,rfl,?_⟩);(refine ⟨_,HStep.q rfl (Bq.slice1 (ah rfl) (tab_of rfl) (tab_of rfl) rfl rfl rfl rfl rfl),?_⟩;refine ⟨_,rfl,?_⟩);refine ⟨_,rfl,?_⟩
   (refine AWs.app (ao rfl) rfl rfl (tab_of rfl) (tab_of rfl) rfl rfl (by simp;omega) (by simp;omega) rfl (by first | ((repeat (first | exact PlainHp.nil | refine PlainHp.var ?_ | refine PlainHp.row ?_ | refine PlainHp.dead ?_));done) | fail) rfl ?_);refine Wa ?_;apply AWl.nil;apply ABlock.normal;apply Yn;apply AWp.region;refine Wm ?_;refine Wq Qz.succ ?_;refine Wa ?_;apply AWl.nil
   refine ALoop.next (P.length - (k+1)) (by omega) ⟨k+1,by omega,rfl,rfl⟩ ?_
   exact AS.le_of (by refine Yd ?_;refine Yp ?_;refine Yp ?_;refine FrLe.cons rfl (AVle.own rfl) ?_;refine Yd ?_;exact FrLe.nil) (by apply Yv;apply Yv;(refine HpLe.cons (OwLe.row ((map_snoc tmC _ ⟨c*(tAt P k).c,add8 m (tAt P k).m⟩).trans (by rw [← htk];simp [tms]))) ?_);exact HpLe.nil)
  ·obtain rfl : k = P.length := by omega
   apply AWp.seq;apply Y1;refine Wm ?_;refine Wm ?_;refine Wq Qz.lenN ?_;refine Wq Qz.cmpF ?_;apply Y0;refine Cf ?_;apply AWp.exit;apply AThen.exit;apply ALoop.exit;apply ABlock.hit;apply Yn;apply Y1;refine Wm ?_;refine Wa ?_;refine Wa ?_;apply Y0;apply AWp.ret
   exact Fin.ret (Rets.of2 (ResV.tmp rfl rfl) (ResV.tmp rfl rfl) (D.le.tup2 (D.le.of_eq (by rw [List.take_length];rfl)) (D.le.refl _)))
def sclL (c : Rat) (P:List Tm):List Tm:=if c = 0 then [] else tms c (fun _=>0) P
theorem RScale_abs (c : Rat) (P:List Tm) (N M:Nat) (hcs:RSz c N) (hP:PSz P M) (hPi:PIn P 0 65535) (hn:P.length≤100000) (hNM:N+M≤4398046511103):Abs Tryz.prog 104 [agD (ratC c),polD P] (polD (sclL c P)):=by
 by_cases hc:c = 0
 ·refine Ab Tryz.func104 fun s0 => ?_
  rw [Tryz.ntmps104]
  apply Y1;refine AWs.bx (ao rfl) rfl rfl rfl rfl ?_;refine Wa ?_;apply Y0;apply Y1;refine Wq Qz.ldD ?_;(refine AWs.q rfl rfl ?_;(refine Bq.arr (tab_of rfl) (tab_of rfl) rfl rfl ?_;(repeat ((first | refine ⟨_,PartOk.ag (ao rfl),?_⟩ | refine ⟨_,PartOk.one rfl (by first | exact One.ex_ rfl | exact One.sl | exact One.ep),?_⟩);refine ⟨_,rfl,?_⟩));refine ⟨_,rfl,?_⟩));refine Wm ?_;refine Wq (Qz.call (RTimes0_abs c (fun _=>0) P hc)) ?_;refine Wm ?_;refine Wq Qz.ext ?_;refine Wq Qz.ext ?_;refine Wa ?_;refine Wa ?_;apply Y0;apply Y1;refine Wm ?_;refine Wa ?_;apply Y0;apply AWp.ret
  exact Fin.ret (Rets.of1 (ResV.tmp rfl rfl) (D.le_pol (by rw [sclL,if_pos hc])))
 ·refine Ab Tryz.func104 fun s0 => ?_
  rw [Tryz.ntmps104]
  apply Y1;refine AWs.bx (ao rfl) rfl rfl rfl rfl ?_;refine Wa ?_;apply Y0;apply Y1;refine Wq Qz.ldD ?_;(refine AWs.q rfl rfl ?_;(refine Bq.arr (tab_of rfl) (tab_of rfl) rfl rfl ?_;(repeat ((first | refine ⟨_,PartOk.ag (ao rfl),?_⟩ | refine ⟨_,PartOk.one rfl (by first | exact One.ex_ rfl | exact One.sl | exact One.ep),?_⟩);refine ⟨_,rfl,?_⟩));refine ⟨_,rfl,?_⟩));refine Wm ?_;refine Wq (Qz.call (RTimes_abs c (fun _=>0) P N M hc hcs In8.zero hP hPi (fun t ht=>by rw [zero_add8];exact hPi t ht) hn hNM)) ?_;refine Wm ?_;refine Wq Qz.ext ?_;refine Wq Qz.ext ?_;refine Wa ?_;refine Wa ?_;apply Y0;apply Y1;refine Wm ?_;refine Wa ?_;apply Y0;apply AWp.ret
  exact Fin.ret (Rets.of1 (ResV.tmp rfl rfl) (D.le_pol (by rw [sclL,if_neg hc])))
theorem tms_psz {c : Rat} {m:Nat→Int} {P:List Tm} {N M:Nat} (hc:RSz c N) (hP:PSz P M):PSz (tms c m P) (N+M):=fun t ht=>by
 obtain ⟨s,hs,rfl⟩:=List.mem_map.1 ht
 exact hc.mul (hP s hs)
theorem sclL_psz {c : Rat} {P:List Tm} {N M:Nat} (hc:RSz c N) (hP:PSz P M):PSz (sclL c P) (N+M):=by
 unfold sclL
 split
 ·intro t ht;cases ht
 ·exact tms_psz hc hP
theorem sclL_length (c : Rat) (P:List Tm):(sclL c P).length≤P.length:=by
 unfold sclL
 split <;> simp
theorem rsz_sm {x : Int} (h0:-1000≤x) (h1:x≤1000):RSz ((x:Int):Rat) 1:=by
 refine ⟨?_,?_⟩
 ·show (digs (x:Int).natAbs).length≤1
  exact len_of_lt (by simp only [BB,Nat.pow_one];omega)
 ·show (digs 1).length≤1
  exact len_of_lt (by simp only [BB,Nat.pow_one];omega)
theorem RSub_abs (P Q:List Tm) (N M:Nat) (hP:PSz P N) (hQ:PSz Q M) (hQi:PIn Q 0 65535) (hNM:N+M+2≤4398046511103) (hn:P.length+Q.length≤100000):Abs Tryz.prog 57 [polD P,polD Q] (polD (mrg P (sclL (-1:Int) Q))):=by
 have h1:RSz ((-1:Int):Rat) 1:=rsz_sm (by omega) (by omega)
 have hl:=sclL_length (-1:Int) Q
 refine Ab Tryz.func57 fun s0=>?_
 rw [Tryz.ntmps57]
 apply Y1;refine Wa ?_;apply Y0;apply Y1;refine Wm ?_;refine Wq (Qz.call (RWhole_abs (-1) (by omega) (by omega))) ?_;refine Wm ?_;refine Wq (Qz.call (RScale_abs (-1:Int) Q 1 M h1 hQ hQi (by omega) (by omega))) ?_;refine Wq (Qz.call (RAdd_pol P (sclL (-1:Int) Q) N (1+M) hP (sclL_psz h1 hQ) (by omega) (by omega))) ?_;refine Wa ?_;apply Y0;apply AWp.ret
 exact Yf
theorem Canon.nil : Canon []:=⟨List.Pairwise.nil,fun t h=>by cases h⟩
theorem Canon.single {t : Tm} (h:t.c ≠ 0):Canon [t]:=⟨List.pairwise_singleton _ _,fun u hu=>by rw [List.mem_singleton.1 hu];exact h⟩
theorem mrg_psz {N M:Nat}:∀ {P Q:List Tm},PSz P N→PSz Q M→PSz (mrg P Q) (N+M+1)
 | [],Q,_,h=>by simp only [mrg];exact h.mono (by omega)
 | s :: P,[],h,_=>by simp only [mrg];exact h.mono (by omega)
 | s :: P,t :: Q,hP,hQ=>by
  have hP':PSz P N:=fun u hu=>hP u (by simp [hu])
  have hQ':PSz Q M:=fun u hu=>hQ u (by simp [hu])
  have con:∀ {x:Tm} {L:List Tm},RSz x.c (N+M+1)→PSz L (N+M+1)→PSz (x :: L) (N+M+1):=fun h1 h2 u hu=>by
   rcases List.mem_cons.1 hu with rfl | hu
   ·exact h1
   ·exact h2 u hu
  rw [mrg]
  split
  ·exact con ((hP s (by simp)).mono (by omega)) (mrg_psz hP' hQ)
  ·split
   ·exact con ((hQ t (by simp)).mono (by omega)) (mrg_psz hP hQ')
   ·split
    ·exact mrg_psz hP' hQ'
    ·exact con ((hP s (by simp)).add (hQ t (by simp))) (mrg_psz hP' hQ')
termination_by P Q => P.length+Q.length
theorem mrg_pin {P Q:List Tm} {a b:Int} (hP:PIn P a b) (hQ:PIn Q a b):PIn (mrg P Q) a b:=fun u hu=>by
 rcases mrg_mem P Q u hu with ⟨s,hs,e⟩ | ⟨s,hs,e⟩
 ·rw [← e];exact hP s hs
 ·rw [← e];exact hQ s hs
theorem SameL.symm : ∀ {P Q:List Tm},SameL P Q→SameL Q P
 | [],[],_=>trivial
 | _ :: _,_ :: _,h=>⟨h.1.symm,h.2.1.symm,SameL.symm h.2.2⟩
 | [],_ :: _,h=>h.elim
 | _ :: _,[],h=>h.elim
structure PB (P : List Tm) (n N:Nat) (d:Int):Prop where
 can:Canon P
 len:P.length≤n
 sz:PSz P N
 ex:PIn P 0 d
theorem PB.mono {P : List Tm} {n N n' N':Nat} {d d':Int} (h:PB P n N d) (h1:n≤n') (h2:N≤N') (h3:d≤d'):PB P n' N' d':=⟨h.can,Nat.le_trans h.len h1,h.sz.mono h2,h.ex.mono (Int.le_refl _) h3⟩
theorem PB.nil {n N:Nat} {d:Int}:PB [] n N d:=⟨Canon.nil,Nat.zero_le _,fun t h=>(by cases h),fun t h=>(by cases h)⟩
theorem PB.add {P Q:List Tm} {n N n' N':Nat} {d d':Int} (h:PB P n N d) (k:PB Q n' N' d'):PB (mrg P Q) (n+n') (N+N'+1) (max d d') :=
 ⟨mrg_canon h.can k.can,by have:=mrg_length P Q;have:=h.len;have:=k.len;omega,mrg_psz h.sz k.sz,mrg_pin (h.ex.mono (Int.le_refl _) (by omega)) (k.ex.mono (Int.le_refl _) (by omega))⟩
def neg (P : List Tm):List Tm:=P.map (fT fun q=>-q)
theorem dec_map {f : Tm→Tm} {P:List Tm} (h:Dec P) (hf:∀ s∈P,∀ t∈P,0<lx s.m t.m→0<lx (f s).m (f t).m):Dec (P.map f):=by
 refine List.pairwise_map.2 (List.Pairwise.imp_of_mem (fun {a b} ha hb hab=>hf a ha b hb hab) h)
theorem neg_canon {P : List Tm} (h:Canon P):Canon (neg P):=⟨dec_map h.1 fun _ _ _ _ h=>h,fun t ht=>by
 obtain ⟨s,hs,rfl⟩:=List.mem_map.1 ht
 intro e
 have e:-s.c = 0:=e
 exact h.2 s hs (by grind)⟩
theorem PB.neg {P : List Tm} {n N : Nat} {d : Int} (h : PB P n N d) : PB (neg P) n N d := ⟨neg_canon h.can, by rw [Go.Proofs.YteicdddphdomkaaGreat.neg, List.length_map]; exact h.len, fun t ht => by
 obtain ⟨s,hs,rfl⟩:=List.mem_map.1 ht
 exact (h.sz s hs).neg,fun t ht=>by
 obtain ⟨s,hs,rfl⟩:=List.mem_map.1 ht
 exact h.ex s hs⟩
theorem neg_dot (f : (Nat→Int)→Rat):∀ P:List Tm,dot f (neg P) = -dot f P
 | []=>by simp [neg,dot]
 | t :: P=>by
  have:=neg_dot f P
  simp only [neg,List.map_cons,dot,fT] at this ⊢
  rw [this];grind
def psub (P Q:List Tm):List Tm:=mrg P (neg Q)
theorem PB.sub {P Q:List Tm} {n N n' N':Nat} {d d':Int} (h:PB P n N d) (k:PB Q n' N' d'):PB (psub P Q) (n+n') (N+N'+1) (max d d'):=h.add k.neg
theorem rat_mul_ne {a b:Rat} (ha:a ≠ 0) (hb:b ≠ 0):a*b ≠ 0:=fun e=>by
 rcases Rat.mul_eq_zero.1 e with h | h
 ·exact ha h
 ·exact hb h
theorem tms_canon {c : Rat} {m:Nat→Int} {P:List Tm} (hc:c ≠ 0) (h:Canon P):Canon (tms c m P):=⟨dec_map h.1 fun s _ t _ h=>by
 show 0<lx (add8 m s.m) (add8 m t.m)
 rwa [add8_comm m,add8_comm m,lx_add],fun t ht=>by
 obtain ⟨s,hs,rfl⟩:=List.mem_map.1 ht
 exact rat_mul_ne hc (h.2 s hs)⟩
theorem add8_in {a b:Nat→Int} {d e:Int} (ha:In8 a 0 d) (hb:In8 b 0 e):In8 (add8 a b) 0 (d+e):=fun i hi=>by
 have:=ha i hi
 have:=hb i hi
 simp only [add8]
 omega
theorem tms_pb {t : Tm} {P:List Tm} {n N N0:Nat} {d d0:Int} (h:PB P n N d) (hc:t.c ≠ 0) (hs:RSz t.c N0) (hm:In8 t.m 0 d0):PB (tms t.c t.m P) n (N0+N) (d0+d) :=
 ⟨tms_canon hc h.can, by rw [tms_length]; exact h.len, tms_psz hs h.sz, fun u hu => by
  obtain ⟨s,hs,rfl⟩:=List.mem_map.1 hu
  exact add8_in hm (h.ex s hs)⟩
def mulTo (A P Q:List Tm):List Tm:=P.foldl (fun a s=>mrg a (tms s.c s.m Q)) A
def pmul (P Q:List Tm):List Tm:=mulTo [] P Q
theorem mulTo_pb {Q : List Tm} {n' N' N:Nat} {d d':Int} (hQ:PB Q n' N' d'):∀ {P A:List Tm} {k K:Nat},(∀ t∈P,t.c ≠ 0)→PSz P N→PIn P 0 d→PB A k K (d+d')→PB (mulTo A P Q) (k+P.length*n') (K+P.length*(N+N'+1)) (d+d')
 | [],A,k,K,_,_,_,h=>by simpa [mulTo] using h
 | t :: P,A,k,K,h1,h2,h3,h=>by
  have ht:=tms_pb (t:=t) (d0:=d) hQ (h1 t (by simp)) (h2 t (by simp)) (h3 t (by simp))
  have h4:PB (mrg A (tms t.c t.m Q)) (k+n') (K+(N+N'+1)) (d+d'):=(h.add ht).mono (Nat.le_refl _) (by omega) (by omega)
  have:=mulTo_pb hQ (P:=P) (fun u hu=>h1 u (by simp [hu])) (fun u hu=>h2 u (by simp [hu])) (fun u hu=>h3 u (by simp [hu])) h4
  refine this.mono ?_ ?_ (Int.le_refl _)
  ·rw [List.length_cons,Nat.succ_mul];omega
  ·rw [List.length_cons,Nat.succ_mul];omega
theorem mulTo_sim {Q : List Tm}:∀ {P A:List Tm},Sim (mulTo A P Q) (A ++ mulL P Q)
 | [],A=>by simp only [mulTo,mulL,List.foldl_nil,List.flatMap_nil,List.append_nil];exact Sim.refl _
 | t :: P,A=>by
  refine (mulTo_sim (P:=P) (A:=mrg A (tms t.c t.m Q))).trans ?_
  refine ((mrg_sim _ _).append (Sim.refl _)).trans ?_
  simp only [mulL,List.flatMap_cons,tms,List.append_assoc]
  exact Sim.refl _
theorem pmul_sim (P Q:List Tm):Sim (pmul P Q) (mulL P Q):=mulTo_sim
theorem PB.mul {P Q:List Tm} {n N n' N':Nat} {d d':Int} (h:PB P n N d) (k:PB Q n' N' d') (h0:0≤d) (h0':0≤d'):PB (pmul P Q) (n*n') (n*(N+N'+1)) (d+d'):=by
 have:=mulTo_pb (A:=[]) (k:=0) (K:=0) (d:=d) k h.can.2 h.sz h.ex PB.nil
 refine this.mono ?_ ?_ (Int.le_refl _)
 ·rw [Nat.zero_add];exact Nat.mul_le_mul_right _ h.len
 ·rw [Nat.zero_add];exact Nat.mul_le_mul_right _ h.len
theorem polD_sim {P Q:List Tm} (hP:Canon P) (hQ:Canon Q) (h:Sim P Q):polD P = polD Q:=polD_same (canon_unique hP hQ h)
theorem neg_sim {P Q:List Tm} (h:Sim P Q):Sim (neg P) (neg Q):=fun f hf=>by rw [neg_dot,neg_dot,h f hf]
theorem PB.same {P Q:List Tm} {n N:Nat} {d:Int} (h:PB P n N d) (hs:SameL P Q):PB Q n N d:=by
 have key:∀ {P Q:List Tm},SameL P Q→∀ t∈Q,∃ s∈P,s.c = t.c∧Eqv s.m t.m:=by
  intro P
  induction P with
  | nil=>intro Q h t ht;cases Q with
   | nil=>cases ht
   | cons=>exact h.elim
  | cons s P ih=>intro Q h t ht;cases Q with
   | nil=>exact h.elim
   | cons u Q =>
    rcases List.mem_cons.1 ht with rfl | ht
    ·exact ⟨s,by simp,h.1,h.2.1⟩
    ·obtain ⟨x,hx,e⟩:=ih h.2.2 t ht
     exact ⟨x,by simp [hx],e⟩
 have dec:∀ {P Q:List Tm},SameL P Q→Dec P→Dec Q:=by
  intro P
  induction P with
  | nil=>intro Q h _;cases Q with
   | nil=>exact List.Pairwise.nil
   | cons=>exact h.elim
  | cons s P ih=>intro Q h hd;cases Q with
   | nil=>exact h.elim
   | cons u Q =>
    have hd:=List.pairwise_cons.1 hd
    refine List.pairwise_cons.2 ⟨fun t ht=>?_,ih h.2.2 hd.2⟩
    obtain ⟨x,hx,_,e⟩:=key h.2.2 t ht
    rw [← lx_congr h.2.1 e]
    exact hd.1 x hx
 refine ⟨⟨dec hs h.can.1,fun t ht=>?_⟩,by rw [← hs.length];exact h.len,fun t ht=>?_,fun t ht=>?_⟩
 ·obtain ⟨s,hs,e,_⟩:=key hs t ht
  rw [← e];exact h.can.2 s hs
 ·obtain ⟨s,hs,e,_⟩:=key hs t ht
  rw [← e];exact h.sz s hs
 ·obtain ⟨s,hs,_,e⟩:=key hs t ht
  intro i hi
  rw [← e i hi];exact h.ex s hs i hi
theorem constL_pb {c : Rat} {N:Nat} (h:RSz c N) {d:Int} (hd:0≤d):PB (constL c) 1 N d:=by
 unfold constL
 split
 ·exact PB.nil
 ·rename_i hc
  refine ⟨Canon.single hc,by simp,fun t ht=>by rw [List.mem_singleton.1 ht];exact h,fun t ht=>by rw [List.mem_singleton.1 ht];exact fun i hi=>⟨Int.le_refl _,hd⟩⟩
theorem PB.single {t : Tm} {N:Nat} {d:Int} (h:t.c ≠ 0) (hs:RSz t.c N) (hm:In8 t.m 0 d):PB [t] 1 N d:=⟨Canon.single h,by simp,fun u hu=>by rw [List.mem_singleton.1 hu];exact hs,fun u hu=>by rw [List.mem_singleton.1 hu];exact hm⟩
theorem unitE_in {i : Nat}:In8 (unitE i) 0 1:=fun j _=>by
 unfold unitE setM
 split
 ·omega
 ·exact ⟨Int.le_refl _,(by show (0:Int)≤1;omega)⟩
theorem mulTo_take {P Q A:List Tm} {k:Nat} (h:k<P.length):mulTo A (P.take (k+1)) Q = mrg (mulTo A (P.take k) Q) (tms (tAt P k).c (tAt P k).m Q):=foldl_tAt (fun a s=>mrg a (tms s.c s.m Q)) A h
theorem mulTo_take_pb {P Q:List Tm} {n N n' N':Nat} {d d':Int} (h:PB P n N d) (hQ:PB Q n' N' d') (h0:0≤d) (h0':0≤d') (k:Nat):PB (mulTo [] (P.take k) Q) (n*n') (n*(N+N'+1)) (d+d'):=by
 have:=mulTo_pb (A:=[]) (k:=0) (K:=0) (d:=d) (P:=P.take k) hQ (fun t ht=>h.can.2 t (List.mem_of_mem_take ht)) (fun t ht=>h.sz t (List.mem_of_mem_take ht)) (fun t ht=>h.ex t (List.mem_of_mem_take ht)) PB.nil
 have hl:(P.take k).length≤n:=Nat.le_trans (by rw [List.length_take];omega) h.len
 refine this.mono ?_ ?_ (Int.le_refl _)
 ·rw [Nat.zero_add];exact Nat.mul_le_mul_right _ hl
 ·rw [Nat.zero_add];exact Nat.mul_le_mul_right _ hl
theorem RPMul_pb {P Q:List Tm} {n N n' N':Nat} {d d':Int} (hP:PB P n N d) (hQ:PB Q n' N' d') (h0:0≤d) (h0':0≤d') (hd:d+d'≤65535) (hn0:n≤100000) (hn:n*n'+n'≤100000) (hN:n*(N+N'+1)+N+N'+1≤4398046511102):Abs Tryz.prog 115 [polD P,polD Q] (tupD [polD (pmul P Q),ex (.int .i64 0)]):=by
 have hPl:=hP.len
 have hQl:=hQ.len
 refine Ab Tryz.func115 fun s0=>?_
 rw [Tryz.ntmps115]
 repeat (first | apply AWp.seq | apply AWp.region | (apply Ga.b0;refine AWs.b0 (tab_of rfl) (tab_of rfl) rfl rfl rfl rfl rfl ?_) | (refine AWs.q rfl rfl ?_;(apply Gt.assign;refine ⟨_,Qs.assign (ao rfl),?_⟩)) | apply AWl.nil | apply Yn | apply AWp.block)
 refine AWp.loop (fun mz σ=>∃ k,k≤P.length∧mz = P.length - k∧σ = ⟨[(0,.d (polD P)),(1,.d (polD Q)),(6,.d (polD (mulTo [] (P.take k) Q))),(7,.d (ex (.int .i64 (k:Nat))))],[]⟩) ?le ⟨0,by omega,rfl,rfl⟩ ?round
 case le=>exact AS.le_of (by repeat (first | exact FrLe.nil | refine Yd ?_ | refine FrLe.cons rfl (AVle.ownD rfl (D.le.refl _)) ?_)) (by repeat (exact HpLe.nil))
 case round =>
  rintro mz _ ⟨k,hk,rfl,rfl⟩
  by_cases hlt:k<P.length
  ·have ht:=tAt_mem hlt
   have hm:=hP.ex _ ht
   have hb:=mulTo_take_pb hP hQ h0 h0' k
   have hbl:=hb.len
   have ht2:=tms_pb (t:=tAt P k) hQ (hP.can.2 _ ht) (hP.sz _ ht) hm
   have ht2l:=ht2.len
   repeat (first | apply AWp.seq | apply AWp.region | (refine AWs.q rfl rfl ?_;first | (apply Gt.move;refine ⟨_,Qs.move (ao rfl),?_⟩) | (apply Gt.len;refine ⟨_,Qs.lenN rfl (tab_of rfl),?_⟩) | (apply Gt.bin;refine ⟨_,Qs.cmpT rfl (ao rfl) (ao rfl) (by first | (simp only [cmpP,List.length_cons,List.length_nil];omega) | (simp [cmpP];done) | (simp [cmpP];omega)),?_⟩)) | apply AWl.nil | apply Yn | apply AWp.block | apply AWp.skip | (apply Gc.cond;refine Ct ?_))
   refine AWp.dr' (DrawOk.float (e:=14) (by kernel_rfl) (K4 (K4 (K4 (AddE.keep (AddE.keep (AddE.keep (AddE.add (AddE.keep AddE.nil)))))))) (by kernel_rfl)) [[],[],[(18,0),(19,1)],[(20,2)],[(21,3)],[],[],[(23,5),(24,6)],[(25,7)],[(26,8)],[],[(22,4),(27,9),(28,10)],[(29,11)],[(17,12)],[(17,12)]] [[],[],[0,1],[0,1,2],[0,1,2,3],[],[],[5,6],[5,6,7],[5,6,7,8],[],[0,1,2,3,4,5,6,7,8,9,10],[0,1,2,3,4,5,6,7,8,9,10,11],[0,1,2,3,4,5,6,7,8,9,10,11,12],[0,1,2,3,4,5,6,7,8,9,10,11,12]] rfl (by kernel_rfl) (by kernel_rfl) (by kernel_rfl) ?_
   repeat (first | refine ⟨_,rfl,?_⟩ | (apply Gh.move;(refine ⟨_,HStep.q rfl (Qs.move (ah rfl)),?_⟩;refine ⟨_,rfl,?_⟩)) | (apply Gh.load;first | (refine ⟨_,HStep.q rfl (Qs.loadEf (ah rfl) (tab_of rfl) rfl rfl),?_⟩;refine ⟨_,rfl,?_⟩) | (refine ⟨_,HStep.q rfl (Qs.ldE (ah rfl) (tab_of rfl) rfl rfl),?_⟩;refine ⟨_,rfl,?_⟩)) | (apply Gh.fieldAddr;(refine ⟨_,HStep.q rfl (Qs.fldE (ah rfl) (tab_of rfl) rfl (tab_of rfl) rfl rfl),?_⟩;refine ⟨_,rfl,?_⟩)) | (apply Gh.indexAddr;(refine ⟨_,HStep.q rfl (Qs.indexN rfl (ah rfl) (tab_of rfl) (tab_of rfl) rfl (by first | omega | (simp;omega))),?_⟩;refine ⟨_,rfl,?_⟩)) | (apply Gh.ext;(refine ⟨_,HStep.q rfl (Qs.ext (ah rfl) rfl),?_⟩;refine ⟨_,rfl,?_⟩)) | (apply Gh.callv;(refine ⟨_,HStep.q rfl (Qs.call (ah rfl) (RTimes_abs (tAt P k).c (tAt P k).m Q N N' (hP.can.2 _ ht) (hP.sz _ ht) (hm.mono (Int.le_refl _) (by omega)) hQ.sz (hQ.ex.mono (Int.le_refl _) (by omega)) (fun t h=>(add8_in hm (hQ.ex t h)).mono (Int.le_refl _) hd) (by omega) (by omega)) (by first | ((repeat (first | exact ArgsLe.nil | refine ArgsLe.cons rfl (D.le.refl _) ?_ | refine ArgsLe.cons rfl D.le_nil ?_));done) | fail)),?_⟩;refine ⟨_,rfl,?_⟩)))
   repeat (first | apply AWp.seq | apply AWp.region | (refine AWs.q rfl rfl ?_;first | (apply Gt.move;refine ⟨_,Qs.move (ao rfl),?_⟩) | (apply Gt.assign;refine ⟨_,Qs.assign (ao rfl),?_⟩) | (apply Gt.add;refine ⟨_,Qs.succ (ao rfl) (ao rfl) (by omega),?_⟩) | (apply Gt.bin;refine ⟨_,Qs.cmpF rfl (ao rfl) (ao rfl) (by first | (simp only [cmpP,List.length_cons,List.length_nil];omega) | (simp [cmpP];done) | (simp [cmpP];omega)),?_⟩) | (apply Gt.callv;refine ⟨_,Qs.call (ao rfl) (RAdd_pol (mulTo [] (P.take k) Q) (tms (tAt P k).c (tAt P k).m Q) (n*(N+N'+1)) (N+N') hb.sz ht2.sz (by omega) (by omega)) (by first | ((repeat (first | exact ArgsLe.nil | refine ArgsLe.cons rfl (D.le.refl _) ?_ | refine ArgsLe.cons rfl D.le_nil ?_));done) | fail),?_⟩)) | apply OnlyN.mk' | apply AWl.nil | apply Yn | apply AWp.skip | apply ABlock.normal | (apply Gc.cond;refine Cf ?_))
   refine ALoop.next (P.length - (k+1)) (by omega) ⟨k+1,by omega,rfl,rfl⟩ ?_
   exact AS.le_of (by repeat (first | exact FrLe.nil | refine Yd ?_ | refine FrLe.cons rfl (AVle.le (D.le_pol (mulTo_take hlt).symm)) ?_)) (by repeat (exact HpLe.nil))
  ·obtain rfl : k = P.length := by omega
   repeat (first | apply AWp.seq | apply AWp.region | (refine AWs.q rfl rfl ?_;first | (apply Gt.move;refine ⟨_,Qs.move (ao rfl),?_⟩) | (apply Gt.assign;refine ⟨_,Qs.assign (ao rfl),?_⟩) | (apply Gt.len;refine ⟨_,Qs.lenN rfl (tab_of rfl),?_⟩) | (apply Gt.bin;refine ⟨_,Qs.cmpF rfl (ao rfl) (ao rfl) (by first | (simp only [cmpP,List.length_cons,List.length_nil];omega) | (simp [cmpP];done) | (simp [cmpP];omega)),?_⟩)) | apply AWl.nil | apply Yn | apply AWp.exit | apply AWp.ret | apply AThen.exit | apply ABlock.hit | apply ALoop.exit | (apply Gc.cond;refine Cf ?_))
   exact Fin.ret (Rets.of2 (ResV.tmp rfl rfl) (ResV.tmp rfl rfl) (D.le.tup2 (D.le_pol (by rw [List.take_length];rfl)) (D.le.refl _)))
theorem RBy_pb {P Q:List Tm} {n N n' N':Nat} {d d':Int} (hP:PB P n N d) (hQ:PB Q n' N' d') (h0:0≤d) (h0':0≤d') (hd:d+d'≤65535) (hn0:n≤100000) (hn:n*n'+n'≤100000) (hN:n*(N+N'+1)+N+N'+1≤4398046511102):Abs Tryz.prog 47 [polD P,polD Q] (polD (pmul P Q)):=by
 refine Ab Tryz.func47 fun s0=>?_
 rw [Tryz.ntmps47]
 repeat (first | apply AWp.seq | apply AWp.region | (refine AWs.q rfl rfl ?_;first | (apply Gt.move;refine ⟨_,Qs.move (ao rfl),?_⟩) | (apply Gt.assign;refine ⟨_,Qs.assign (ao rfl),?_⟩) | (apply Gt.ext;refine ⟨_,Qs.ext (ao rfl) rfl,?_⟩) | (apply Gt.callv;refine ⟨_,Qs.call (ao rfl) (RPMul_pb hP hQ h0 h0' hd hn0 hn hN) (by first | ((repeat (first | exact ArgsLe.nil | refine ArgsLe.cons rfl (D.le.refl _) ?_ | refine ArgsLe.cons rfl D.le_nil ?_));done) | fail),?_⟩)) | apply AWl.nil | apply Yn | apply AWp.ret)
 exact Yf
theorem Abs.le {P : Program} {f:FuncId} {ds:List D} {r r':D} (h:Abs P f ds r) (hr:D.le r r'):Abs P f ds r' :=
 ⟨h.1,fun s vs h1 h2 h3=>(h.2 s vs h1 h2 h3).mono fun e w' ⟨v,he,s',hw,hl,hv⟩=>⟨v,he,s',hw,hl,hr _ _ hv⟩⟩
theorem PMul_pb {P Q:List Tm} {n N n' N':Nat} {d d':Int} (hP:PB P n N d) (hQ:PB Q n' N' d') (h0:0≤d) (h0':0≤d') (hd:d+d'≤65535) (hn:n*n'≤100000) (hN:N+N'+1≤10000000):Abs Tryz.prog 18 [polD P,polD Q] (tupD [polD (pmul P Q),ex (.int .i64 0)]) :=
 (PMul_abs P Q N N' hP.sz hQ.sz d d' hP.ex hQ.ex hd h0 h0' (Nat.le_trans (Nat.mul_le_mul hP.len hQ.len) hn) hN).le fun s v hv=>by
  obtain ⟨S,⟨h1,h2,_⟩,h3⟩:=hv
  have h3:(tupD [polD S,ex (.int .i64 0)]).rel s v:=h3
  rwa [polD_sim h1 (hP.mul hQ h0 h0').can (h2.trans (pmul_sim P Q).symm)] at h3
theorem PAdd_pb {P Q:List Tm} {n N n' N':Nat} {d d':Int} (hP:PB P n N d) (hQ:PB Q n' N' d') (hn:n+n'≤100000) (hN:N+N'+1≤4398046511104):Abs Tryz.prog 20 [polD P,polD Q] (polD (mrg P Q)) :=
 PAdd_abs P Q N N' hP.sz hQ.sz hN (Nat.le_trans (Nat.add_le_add hP.len hQ.len) hn)
theorem PSub_pb {P Q:List Tm} {n N n' N':Nat} {d d':Int} (hP:PB P n N d) (hQ:PB Q n' N' d') (hn:n+n'≤100000) (hN:N+N'+1≤4398046511104):Abs Tryz.prog 21 [polD P,polD Q] (polD (psub P Q)) :=
 PSub_abs P Q N N' hP.sz hQ.sz hN (Nat.le_trans (Nat.add_le_add hP.len hQ.len) hn)
theorem RAdd_pb {P Q:List Tm} {n N n' N':Nat} {d d':Int} (hP:PB P n N d) (hQ:PB Q n' N' d') (hn:n+n'≤100000) (hN:N+N'+1≤4398046511103):Abs Tryz.prog 56 [polD P,polD Q] (polD (mrg P Q)) :=
 RAdd_pol P Q N N' hP.sz hQ.sz hN (Nat.le_trans (Nat.add_le_add hP.len hQ.len) hn)
theorem scl_one_neg {Q : List Tm} (hQ:Canon Q):SameL (sclL (-1:Int) Q) (neg Q):=by
 rw [sclL,if_neg (by decide)]
 induction Q with
 | nil=>trivial
 | cons t Q ih =>
  refine ⟨?_,fun i _=>?_,ih ⟨(List.pairwise_cons.1 hQ.1).2,fun u hu=>hQ.2 u (by simp [hu])⟩⟩
  ·show ((-1:Int):Rat)*t.c = -t.c
   have:((-1:Int):Rat) = -1:=rfl
   rw [this];grind
  ·show 0+t.m i = t.m i
   omega
theorem RSub_pb {P Q:List Tm} {n N n' N':Nat} {d d':Int} (hP:PB P n N d) (hQ:PB Q n' N' d') (hd:d'≤65535) (hn:n+n'≤100000) (hN:N+N'+2≤4398046511103):Abs Tryz.prog 57 [polD P,polD Q] (polD (psub P Q)):=by
 have hs:=scl_one_neg hQ.can
 have hc:=(hQ.neg.same hs.symm).can
 exact (RSub_abs P Q N N' hP.sz hQ.sz (hQ.ex.mono (Int.le_refl _) hd) hN (Nat.le_trans (Nat.add_le_add hP.len hQ.len) hn)).le (D.le.of_eq (polD_sim (mrg_canon hP.can hc) (mrg_canon hP.can hQ.neg.can) ((mrg_sim _ _).trans (((Sim.refl P).append hs.sim).trans (mrg_sim _ _).symm))))
theorem RSame_true {P Q:List Tm} (h:SameL P Q):Abs Tryz.prog 19 [polD P,polD Q] (ex (.bool true)):=by
 have:=RSame_abs P Q
 rwa [sameB_true.2 h] at this
theorem RSame_sim {P Q:List Tm} (hP:Canon P) (hQ:Canon Q) (h:Sim P Q):Abs Tryz.prog 19 [polD P,polD Q] (ex (.bool true)):=RSame_true (canon_unique hP hQ h)
theorem PValid_pb {P : List Tm} {n N:Nat} {d:Int} (h:PB P n N d) (hd:d≤65535) (hN:N≤1000000000) (hn:n≤1000000):Abs Tryz.prog 14 [polD P] (ex (.bool true)):=PValidP_abs P N h.can (h.ex.mono (Int.le_refl _) hd) h.sz hN (Nat.le_trans h.len hn)
theorem RPValid_pb {P : List Tm} {n N:Nat} {d:Int} (h:PB P n N d) (hd:d≤65535) (hN:N≤1000000000) (hn:n≤1000000):Abs Tryz.prog 15 [polD P] (ex (.bool true)):=RPValidP_abs P N h.can (h.ex.mono (Int.le_refl _) hd) h.sz hN (Nat.le_trans h.len hn)
theorem Rabs_abs (z : Int) (h0:-128≤z) (h1:z≤127):Abs Tryz.prog 103 [ex (.int .i8 z)] (ex (.int .i64 (z.natAbs:Nat))):=by
 by_cases hz:z<0
 ·refine Ab Tryz.func103 fun s0 => ?_
  rw [Tryz.ntmps103]
  repeat (first | refine AWs.q rfl rfl ?_;refine ⟨_,Qs.conv64 (ao rfl) (tab_of rfl) (tab_of rfl) (by omega) (by omega),?_⟩ | refine AWs.q rfl rfl ?_;refine ⟨_,Qs.neg (ao rfl) (by omega) (by omega),?_⟩ | apply AWp.seq | apply AWp.region | (refine AWs.q rfl rfl ?_;first | (apply Gt.move;refine ⟨_,Qs.move (ao rfl),?_⟩) | (apply Gt.assign;refine ⟨_,Qs.assign (ao rfl),?_⟩) | (apply Gt.bin;refine ⟨_,Qs.cmpT rfl (ao rfl) (ao rfl) (by first | (simp only [cmpP,List.length_cons,List.length_nil];omega) | (simp [cmpP];done) | (simp [cmpP];omega)),?_⟩)) | apply AWl.nil | apply Yn | apply AWp.ret | apply AThen.ret | (apply Gc.cond;refine Ct ?_))
  exact Fin.ret (Rets.of1 (ResV.tmp rfl rfl) (D.le.of_eq (by congr 2;omega)))
 ·refine Ab Tryz.func103 fun s0 => ?_
  rw [Tryz.ntmps103]
  repeat (first | refine AWs.q rfl rfl ?_;refine ⟨_,Qs.conv64 (ao rfl) (tab_of rfl) (tab_of rfl) (by omega) (by omega),?_⟩ | apply AWp.seq | apply AWp.region | (refine AWs.q rfl rfl ?_;first | (apply Gt.move;refine ⟨_,Qs.move (ao rfl),?_⟩) | (apply Gt.assign;refine ⟨_,Qs.assign (ao rfl),?_⟩) | (apply Gt.bin;refine ⟨_,Qs.cmpF rfl (ao rfl) (ao rfl) (by first | (simp only [cmpP,List.length_cons,List.length_nil];omega) | (simp [cmpP];done) | (simp [cmpP];omega)),?_⟩)) | apply AWl.nil | apply Yn | apply AWp.skip | apply AWp.ret | (apply Gc.cond;refine Cf ?_))
  exact Fin.ret (Rets.of1 (ResV.tmp rfl rfl) (D.le.of_eq (by congr 2;omega)))
def lft (deg : Int) (r:Nat→Int):Nat→Int
 | 0=>deg
 | j+1=>lft deg r j - ((r (j+1)).natAbs:Nat) % (lft deg r j+1)
theorem lft_in {deg : Int} (r:Nat→Int) (h:0≤deg):∀ j,0≤lft deg r j∧lft deg r j≤deg
 | 0=>⟨h,Int.le_refl _⟩
 | j+1=>by
  have ih:=lft_in r h j
  have h1:=Int.emod_nonneg ((r (j+1)).natAbs:Int) (show lft deg r j+1 ≠ 0 by omega)
  have h2:=Int.emod_lt_of_pos ((r (j+1)).natAbs:Int) (show 0<lft deg r j+1 by omega)
  simp only [lft]
  omega
def expE (deg : Int) (r:Nat→Int) (n:Nat):Nat→Int:=fun j=>if j<n then ((r (j+1)).natAbs:Nat) % (lft deg r j+1) else 0
theorem expE_in {deg : Int} (r:Nat→Int) (h:0≤deg) (n:Nat):In8 (expE deg r n) 0 deg:=fun j _=>by
 unfold expE
 have ih:=lft_in r h j
 split
 ·have h1 := Int.emod_nonneg ((r (j + 1)).natAbs : Int) (show lft deg r j + 1 ≠ 0 by omega)
  have h2:=Int.emod_lt_of_pos ((r (j+1)).natAbs:Int) (show 0<lft deg r j+1 by omega)
  omega
 ·omega
theorem expE_set (deg : Int) (r:Nat→Int) (k:Nat):setM (expE deg r k) k (((r (k+1)).natAbs:Nat) % (lft deg r k+1)) = expE deg r (k+1):=by
 funext j
 simp only [setM,expE]
 rcases Nat.lt_trichotomy j k with h | h | h
 ·rw [if_neg (by omega),if_pos h,if_pos (by omega)]
 ·subst h;simp
 ·rw [if_neg (by omega),if_neg (by omega),if_neg (by omega)]
def rawT (deg : Int) (n:Nat) (r:Nat→Int):List Tm:=sclL ((Int.tmod (r 0) 4:Int):Rat) [⟨1,expE deg r n⟩]
def madeTo (deg : Int) (n:Nat) (X:List (Nat→Int)):List Tm:=X.foldl (fun a r=>mrg a (rawT deg n r)) []
def madeP (X : List (Nat→Int)) (n:Nat) (deg:Int) (terms:Nat):List Tm:=madeTo deg (min n 4) (X.take (min X.length terms))
theorem tmod4 (z : Int):-3≤Int.tmod z 4∧Int.tmod z 4≤3:=by
 rcases Int.le_total 0 z with h | h
 ·rw [Int.tmod_eq_emod_of_nonneg h];omega
 ·have:Int.tmod z 4 = -((-z) % 4):=by
   rw [← Int.tmod_eq_emod_of_nonneg (by omega),Int.neg_tmod,Int.neg_neg]
  omega
theorem sclL_pb {c : Rat} {P:List Tm} {n N N0:Nat} {d:Int} (h:PB P n N d) (hs:RSz c N0):PB (sclL c P) n (N0+N) d:=by
 unfold sclL
 split
 ·exact PB.nil
 ·rename_i hc
  have:=tms_pb (t:=⟨c,fun _=>0⟩) (d0:=0) h hc hs fun i _=>⟨Int.le_refl _,Int.le_refl _⟩
  rwa [Int.zero_add] at this
theorem one_pb {m : Nat→Int} {d:Int} (h:In8 m 0 d):PB [⟨1,m⟩] 1 1 d:=PB.single (show (1:Rat) ≠ 0 by decide) (rsz_one) h
where rsz_one : RSz (1:Rat) 1:=rsz_sm (x:=1) (by omega) (by omega)
theorem tmod_sz (z : Int):RSz ((Int.tmod z 4:Int):Rat) 1:=by
 have:=tmod4 z
 exact rsz_sm (by omega) (by omega)
theorem rawT_pb {deg : Int} (n:Nat) (r:Nat→Int) (h:0≤deg):PB (rawT deg n r) 1 2 deg:=sclL_pb (one_pb (expE_in r h n)) (tmod_sz _)
theorem madeTo_pb {deg : Int} {n:Nat} (h:0≤deg):∀ (X:List (Nat→Int)) (A:List Tm) (k K:Nat),PB A k K deg→PB (X.foldl (fun a r=>mrg a (rawT deg n r)) A) (k+X.length) (K+X.length*3) deg
 | [],A,k,K,h=>h
 | r :: X,A,k,K,hA=>by
  have h1:=(hA.add (rawT_pb n r h)).mono (Nat.le_refl _) (Nat.le_refl _) (Int.max_le.2 ⟨Int.le_refl _,Int.le_refl _⟩)
  have:=madeTo_pb (n:=n) h X _ _ _ h1
  exact this.mono (by simp;omega) (by simp;omega) (Int.le_refl _)
theorem madeP_pb (X : List (Nat→Int)) (n:Nat) {deg:Int} (terms:Nat) (h:0≤deg):PB (madeP X n deg terms) terms (terms*3) deg:=by
 have:=madeTo_pb (n:=min n 4) h (X.take (min X.length terms)) [] 0 0 PB.nil
 have hl:(X.take (min X.length terms)).length≤terms:=by rw [List.length_take];omega
 exact this.mono (by omega) (by omega) (Int.le_refl _)
theorem madeTo_take_pb (X : List (Nat→Int)) (n:Nat) {deg:Int} {terms k:Nat} (h:0≤deg) (hk:k≤terms):PB (madeTo deg n (X.take k)) terms (terms*3) deg:=by
 have:=madeTo_pb (n:=n) h (X.take k) [] 0 0 PB.nil
 have hl:(X.take k).length≤terms:=by rw [List.length_take];omega
 exact this.mono (by omega) (by omega) (Int.le_refl _)
theorem foldl_i5 {α : Type} (f:α→(Nat→Int)→α) (b:α) {X:List (Nat→Int)} {k:Nat} (h:k<X.length):(X.take (k+1)).foldl f b = f ((X.take k).foldl f b) (i5At X k):=by
 have e:X.take (k+1) = X.take k ++ [i5At X k]:=by
  rw [List.take_add_one,List.getElem?_eq_getElem h,i5At,List.getD_eq_getElem?_getD,List.getElem?_eq_getElem h]
  rfl
 rw [e,List.foldl_append]
 rfl
def Raw8 (X : List (Nat→Int)):Prop:=∀ r∈X,∀ j,j<5→-128≤r j∧r j≤127
theorem RMade_abs (T : Nat) (X:List (Nat→Int)) (n terms:Nat) (deg:Int) (hX:Raw8 X) (hn:n≤8) (ht:terms≤1000) (h0:0≤deg) (hd:deg≤1000):Abs Tryz.prog 41 [agD [r5D T X],ex (.int .i64 (n:Nat)),ex (.int .i64 deg),ex (.int .i64 (terms:Nat))] (polD (madeP X n deg terms)):=by
 refine Ab Tryz.func41 fun s0=>?_
 rw [Tryz.ntmps41]
 repeat (first | apply AWp.seq | apply AWp.region | (apply Ga.box;refine AWs.bx (ao rfl) rfl rfl rfl rfl ?_) | (apply Ga.b0;refine AWs.b0 (tab_of rfl) (tab_of rfl) rfl rfl rfl rfl rfl ?_) | (refine AWs.q rfl rfl ?_;(apply Gt.assign;refine ⟨_,Qs.assign (ao rfl),?_⟩)) | apply AWl.nil | apply Yn | apply AWp.block)
 refine AWp.loop (fun mz σ=>∃ k,k≤min X.length terms∧mz = min X.length terms - k∧σ = ⟨[(1,.d (ex (.int .i64 (n:Nat)))),(2,.d (ex (.int .i64 deg))),(3,.d (ex (.int .i64 (terms:Nat)))),(4,.ptr 0 0),(9,.d (polD (madeTo deg (min n 4) (X.take k)))),(10,.d (ex (.int .i64 (k:Nat))))],[.var 37 ([r5D T X].map .d)]⟩) ?le ⟨0,by omega,rfl,rfl⟩ ?round
 case le=>exact AS.le_of (by repeat (first | exact FrLe.nil | refine Yd ?_ | refine Yp ?_ | refine FrLe.cons rfl (AVle.ownD rfl (D.le.refl _)) ?_)) (by repeat (first | exact HpLe.nil | apply Yv))
 case round =>
  rintro mz _ ⟨k,hk,rfl,rfl⟩
  by_cases hlt:k<min X.length terms
  ·have hkX : k < X.length := by omega
   have hkt:k<terms:=by omega
   repeat (first | apply AWp.seq | apply AWp.region | (apply Ga.alloc;refine AWs.al (tab_of rfl) rfl rfl rfl rfl rfl rfl ?_) | (apply Ga.store;refine Sf ?_) | (refine AWs.q rfl rfl ?_;first | (apply Gt.move;refine ⟨_,Qs.move (ao rfl),?_⟩) | (apply Gt.assign;refine ⟨_,Qs.assign (ao rfl),?_⟩) | (apply Gt.load;refine ⟨_,Qs.ldD1 (ao rfl) rfl (tab_of rfl) rfl rfl,?_⟩) | (apply Gt.fieldAddr;refine ⟨_,Qs.fldP (ao rfl) (tab_of rfl) rfl (tab_of rfl) rfl,?_⟩) | (apply Gt.len;refine ⟨_,Qs.lenN rfl (tab_of rfl),?_⟩) | (apply Gt.bin;refine ⟨_,Qs.cmpT rfl (ao rfl) (ao rfl) (by first | (simp only [cmpP,List.length_cons,List.length_nil];omega) | (simp [cmpP];done) | (simp [cmpP];omega)),?_⟩) | (apply Gt.pick;refine ⟨_,Qs.pickT (ao rfl) (ao rfl),?_⟩) | (apply Gt.build;(refine Bq.arr (tab_of rfl) (tab_of rfl) rfl rfl ?_;(repeat ((first | refine ⟨_,PartOk.ag (ao rfl),?_⟩ | refine ⟨_,PartOk.one rfl (by first | exact One.ex_ rfl | exact One.sl | exact One.ep),?_⟩);refine ⟨_,rfl,?_⟩));refine ⟨_,rfl,?_⟩))) | (refine AWs.qG rfl rfl rfl rfl rfl ?_;first | (apply Gt.move;refine ⟨_,Qs.move (ao rfl),?_⟩) | (apply Gt.bin;refine ⟨_,Qs.cmpT rfl (ao rfl) (ao rfl) (by first | (simp only [cmpP,List.length_cons,List.length_nil];omega) | (simp [cmpP];done) | (simp [cmpP];omega)),?_⟩)) | apply AWl.nil | apply Yn | apply AWp.block | apply AWp.skip | (apply Gc.cond;refine Ct ?_))
   refine AWp.loop (fun mz σ=>∃ i,i≤min n 4∧mz = min n 4 - i∧σ = ⟨[(1,.d (ex (.int .i64 (n:Nat)))),(2,.d (ex (.int .i64 deg))),(3,.d (ex (.int .i64 (terms:Nat)))),(4,.ptr 0 0),(9,.d (polD (madeTo deg (min n 4) (X.take k)))),(10,.d (ex (.int .i64 (k:Nat)))),(11,.ptr 1 0),(12,.d (ex (.int .i64 (lft deg (i5At X k) i)))),(13,.d (ex (.int .i64 (i:Nat))))],[.var 37 ([r5D T X].map .d),.var 31 ((monC (expE deg (i5At X k) i)).map .d)]⟩) ?lei ⟨0,by omega,rfl,rfl⟩ ?roundi
   case lei=>exact AS.le_of (by repeat (first | exact FrLe.nil | refine Yd ?_ | refine Yp ?_)) (by repeat (first | exact HpLe.nil | apply Yv))
   case roundi =>
    rintro mz _ ⟨i,hi,rfl,rfl⟩
    by_cases hlti:i<min n 4
    ·have hl:=lft_in (i5At X k) h0 i
     have hr:=hX _ (i5At_mem hkX) (i+1) (by omega)
     have hs:setM (expE deg (i5At X k) i) i (((i5At X k (i+1)).natAbs:Nat) % (lft deg (i5At X k) i+1)) i = ((i5At X k (i+1)).natAbs:Nat) % (lft deg (i5At X k) i+1):=if_pos rfl
     have he1:=Int.emod_nonneg ((i5At X k (i+1)).natAbs:Int) (show lft deg (i5At X k) i+1 ≠ 0 by omega)
     have he2:=Int.emod_lt_of_pos ((i5At X k (i+1)).natAbs:Int) (show 0<lft deg (i5At X k) i+1 by omega)
     repeat (first | refine AWs.q rfl rfl ?_;refine ⟨_,Qs.succL (ao rfl) (ao rfl) (by omega),?_⟩ | refine AWs.q rfl rfl ?_;refine ⟨_,Qs.ldEX1 (ao rfl) (tab_of rfl) rfl (CellAt.r5 (show i+1<5 by omega)),?_⟩ | apply AWp.seq | apply AWp.region | (apply Ga.store;refine AWs.stX1 (ao rfl) (ao rfl) rfl (tab_of rfl) (by first | exact One.ex_ rfl | exact One.sl | exact One.ep) (SetAt.mon (by first | omega | (simp;omega))) rfl ?_) | (refine AWs.q rfl rfl ?_;first | (apply Gt.move;refine ⟨_,Qs.move (ao rfl),?_⟩) | (apply Gt.assign;refine ⟨_,Qs.assign (ao rfl),?_⟩) | (apply Gt.load;first | refine ⟨_,Qs.ldD1 (ao rfl) rfl (tab_of rfl) rfl rfl,?_⟩ | refine ⟨_,Qs.ldX1 (ao rfl) rfl (tab_of rfl) rfl (CellAt.mon0 (by first | omega | (simp;omega))),?_⟩) | (apply Gt.fieldAddr;refine ⟨_,Qs.fldP (ao rfl) (tab_of rfl) rfl (tab_of rfl) rfl,?_⟩) | (apply Gt.indexAddr;first | refine ⟨_,Qs.indexN rfl (ao rfl) (tab_of rfl) (tab_of rfl) rfl (by first | omega | (simp;omega)),?_⟩ | refine ⟨_,Qs.ixP (ao rfl) (ao rfl) (tab_of rfl) (tab_of rfl) (by first | omega | (simp;omega)),?_⟩ | refine ⟨_,Qs.ixE (ao rfl) (ao rfl) (tab_of rfl) (tab_of rfl) (by first | omega | (simp;omega)),?_⟩) | (apply Gt.add;first | refine ⟨_,Qs.succ (ao rfl) (ao rfl) (by omega),?_⟩ | refine ⟨_,Qs.add (ao rfl) (ao rfl) (by omega) (by omega),?_⟩) | (apply Gt.sub;refine ⟨_,Qs.sub (ao rfl) (ao rfl) (by omega) (by omega),?_⟩) | (apply Gt.rem;refine ⟨_,Qs.rem (ao rfl) (ao rfl) (by omega) (by omega),?_⟩) | (apply Gt.bin;refine ⟨_,Qs.cmpT rfl (ao rfl) (ao rfl) (by first | (simp only [cmpP,List.length_cons,List.length_nil];omega) | (simp [cmpP];done) | (simp [cmpP];omega)),?_⟩) | (apply Gt.pick;refine ⟨_,Qs.pickT (ao rfl) (ao rfl),?_⟩) | (apply Gt.callv;refine ⟨_,Qs.call (ao rfl) (Rabs_abs (i5At X k (i+1)) hr.1 hr.2) (by first | ((repeat (first | exact ArgsLe.nil | refine ArgsLe.cons rfl (D.le.refl _) ?_ | refine ArgsLe.cons rfl D.le_nil ?_));done) | fail),?_⟩)) | (refine AWs.qG rfl rfl rfl rfl rfl ?_;first | (apply Gt.move;refine ⟨_,Qs.move (ao rfl),?_⟩) | (apply Gt.bin;refine ⟨_,Qs.cmpT rfl (ao rfl) (ao rfl) (by first | (simp only [cmpP,List.length_cons,List.length_nil];omega) | (simp [cmpP];done) | (simp [cmpP];omega)),?_⟩)) | apply AWl.nil | apply Yn | apply AWp.block | apply AWp.skip | apply ABlock.normal | (apply Gc.cond;refine Ct ?_))
     refine ALoop.next (min n 4 - (i+1)) (by omega) ⟨i+1,by omega,rfl,rfl⟩ ?_
     exact AS.le_of (by repeat (first | exact FrLe.nil | refine Yd ?_ | refine Yp ?_ | refine FrLe.cons rfl (AVle.int (by rw [hs];rfl)) ?_)) (by repeat (first | exact HpLe.nil | refine HpLe.cons (OwLe.varD (by rw [expE_set])) ?_ | apply Yv))
    ·obtain rfl : i = min n 4 := by omega
     have hrm:=i5At_mem hkX
     have hr0:=hX _ hrm 0 (by omega)
     have h4:=tmod4 (i5At X k 0)
     have h4':-3≤Int.tmod (X.getD k default 0) 4∧Int.tmod (X.getD k default 0) 4≤3:=h4
     have hb:=madeTo_take_pb X (min n 4) (terms:=terms) h0 (Nat.le_of_lt hkt)
     have hbl:=hb.len
     have ht:=rawT_pb (min n 4) (i5At X k) h0
     have htl:=ht.len
     have h1:=one_pb (expE_in (i5At X k) h0 (min n 4))
     have hz:(i5At X k 0).tmod 4 = IntKind.i64.wrap ((i5At X k 0).tmod 4):=(IntWalk.i64_in _ (by omega)).symm
     have hst:madeTo deg (min n 4) (X.take (k+1)) = mrg (madeTo deg (min n 4) (X.take k)) (rawT deg (min n 4) (i5At X k)):=foldl_i5 (fun a r=>mrg a (rawT deg (min n 4) r)) [] hkX
     rcases (show n≤4∨4<n by omega) with hn4 | hn4
     all_goals
      repeat (first | apply AWp.seq | apply AWp.region | (refine AWs.q rfl rfl ?_;first | (apply Gt.move;refine ⟨_,Qs.move (ao rfl),?_⟩) | (apply Gt.bin;first | refine ⟨_,Qs.cmpT rfl (ao rfl) (ao rfl) (by first | (simp only [cmpP,List.length_cons,List.length_nil];omega) | (simp [cmpP];done) | (simp [cmpP];omega)),?_⟩ | refine ⟨_,Qs.cmpF rfl (ao rfl) (ao rfl) (by first | (simp only [cmpP,List.length_cons,List.length_nil];omega) | (simp [cmpP];done) | (simp [cmpP];omega)),?_⟩) | (apply Gt.pick;first | refine ⟨_,Qs.pickT (ao rfl) (ao rfl),?_⟩ | refine ⟨_,Qs.pickF (ao rfl) (ao rfl),?_⟩)) | refine AWs.sG rfl rfl rfl rfl rfl ?_ | (refine AWs.qG rfl rfl rfl rfl rfl ?_;first | (apply Gt.move;refine ⟨_,Qs.move (ao rfl),?_⟩) | (apply Gt.bin;refine ⟨_,Qs.cmpF rfl (ao rfl) (ao rfl) (by first | (simp only [cmpP,List.length_cons,List.length_nil];omega) | (simp [cmpP];done) | (simp [cmpP];omega)),?_⟩)) | apply AWl.nil | apply Yn | apply AWp.exit | apply AThen.exit | apply ABlock.hit | apply ALoop.exit | (apply Gc.cond;refine Cf ?_))
      refine AWp.dr' (DrawOk.self (by kernel_rfl)) [[],[],[(58,1)],[],[(59,2),(60,3)],[(61,4)],[(62,5)],[(63,6)],[(64,7)],[(65,8)],[],[],[(67,10),(68,11)],[(69,12)],[(66,9),(70,13)],[(57,0),(71,14)]] [[],[],[1],[],[1,2,3],[1,2,3,4],[1,2,3,4,5],[1,2,3,4,5,6],[1,2,3,4,5,6,7],[1,2,3,4,5,6,7,8],[1,2,3,4,5,6,7,8,9],[],[1,2,3,4,5,6,7,8,9,10,11],[1,2,3,4,5,6,7,8,9,10,11,12],[1,2,3,4,5,6,7,8,9,10,11,12,13],[0,1,2,3,4,5,6,7,8,9,10,11,12,13,14]] rfl (by kernel_rfl) (by kernel_rfl) (by kernel_rfl) ?_
      repeat (first | refine ⟨_,rfl,?_⟩ | (apply Gh.move;(refine ⟨_,HStep.q rfl (Qs.move (ah rfl)),?_⟩;refine ⟨_,rfl,?_⟩)) | (apply Gh.load;first | (refine ⟨_,HStep.q rfl (Qs.ldD (ah rfl) rfl (tab_of rfl) rfl rfl),?_⟩;refine ⟨_,rfl,?_⟩) | (refine ⟨_,HStep.q rfl (Qs.ldD1 (ah rfl) rfl (tab_of rfl) rfl rfl),?_⟩;refine ⟨_,rfl,?_⟩) | (refine ⟨_,HStep.q rfl (Qs.ldE1 (ah rfl) (tab_of rfl) rfl rfl),?_⟩;refine ⟨_,rfl,?_⟩)) | (apply Gh.fieldAddr;(refine ⟨_,HStep.q rfl (Qs.fldP (ah rfl) (tab_of rfl) rfl (tab_of rfl) rfl),?_⟩;refine ⟨_,rfl,?_⟩)) | (apply Gh.indexAddr;first | (refine ⟨_,HStep.q rfl (Qs.indexN rfl (ah rfl) (tab_of rfl) (tab_of rfl) rfl (by first | omega | (simp;omega))),?_⟩;refine ⟨_,rfl,?_⟩) | (refine ⟨_,HStep.q rfl (Qs.ixL (ah rfl) (ah rfl) (tab_of rfl) (tab_of rfl) (by decide) (by decide) rfl),?_⟩;refine ⟨_,rfl,?_⟩)) | (apply Gh.rem;(refine ⟨_,HStep.q rfl (Qs.remT (ah rfl) (ah rfl) (by decide)),?_⟩;refine ⟨_,rfl,?_⟩)) | (apply Gh.bslice;(refine ⟨_,HStep.q rfl (Bq.slice1 (ah rfl) (tab_of rfl) (tab_of rfl) rfl rfl rfl rfl rfl),?_⟩;refine ⟨_,rfl,?_⟩)) | (apply Gh.conv;(refine ⟨_,HStep.q rfl (Qs.conv64 (ah rfl) (tab_of rfl) (tab_of rfl) (by omega) (by omega)),?_⟩;refine ⟨_,rfl,?_⟩)) | (apply Gh.build;(refine Hq rfl ?_;refine Bq.build (tab_of rfl) rfl rfl rfl ?_;(repeat ((first | refine ⟨_,PartOk.ag (ah rfl),?_⟩ | refine ⟨_,PartOk.one rfl (by first | exact One.ex_ rfl | exact One.sl | exact One.ep),?_⟩);refine ⟨_,rfl,?_⟩));refine ⟨_,rfl,?_⟩;refine ⟨_,rfl,?_⟩)) | (apply Gh.callv;first | (refine ⟨_,HStep.q rfl (Qs.call (ah rfl) (RWhole_abs ((i5At X k 0).tmod 4) (by omega) (by omega)) (by first | ((repeat (first | exact ArgsLe.nil | refine ArgsLe.cons rfl (D.le.refl _) ?_ | refine ArgsLe.cons rfl D.le_nil ?_));done) | fail)),?_⟩;refine ⟨_,rfl,?_⟩) | (refine ⟨_,HStep.q rfl (Qs.call (ah rfl) (RWhole_abs 1 (by omega) (by omega)) (by first | ((repeat (first | exact ArgsLe.nil | refine ArgsLe.cons rfl (D.le.refl _) ?_ | refine ArgsLe.cons rfl D.le_nil ?_));done) | fail)),?_⟩;refine ⟨_,rfl,?_⟩) | (refine ⟨_,HStep.q rfl (Qs.call (ah rfl) (RScale_abs ((Int.tmod (i5At X k 0) 4:Int):Rat) [⟨1,expE deg (i5At X k) (min n 4)⟩] 1 1 (tmod_sz _) h1.sz (h1.ex.mono (Int.le_refl _) (by omega)) (by simp) (by omega)) (by first | ((repeat (first | exact ArgsLe.nil | refine ArgsLe.cons rfl (D.le.refl _) ?_ | refine ArgsLe.cons rfl D.le_nil ?_));done) | fail)),?_⟩;refine ⟨_,rfl,?_⟩) | (refine ⟨_,HStep.q rfl (Qs.call (ah rfl) (RAdd_pol (madeTo deg (min n 4) (X.take k)) (rawT deg (min n 4) (i5At X k)) (terms*3) 2 hb.sz ht.sz (by omega) (by omega)) (by first | ((repeat (first | exact ArgsLe.nil | refine ArgsLe.cons rfl (D.le.refl _) ?_ | refine ArgsLe.cons rfl D.le_nil ?_));done) | fail)),?_⟩;refine ⟨_,rfl,?_⟩)))
      repeat (first | apply AWp.region | (refine AWs.q rfl rfl ?_;first | (apply Gt.move;refine ⟨_,Qs.move (ao rfl),?_⟩) | (apply Gt.assign;refine ⟨_,Qs.assign (ao rfl),?_⟩) | (apply Gt.add;refine ⟨_,Qs.succ (ao rfl) (ao rfl) (by omega),?_⟩)) | apply AWl.nil | apply Yn | apply ABlock.normal)
      refine ALoop.next (min X.length terms - (k+1)) (by omega) ⟨k+1,by omega,rfl,rfl⟩ ?_
      exact AS.le_of (by repeat (first | exact FrLe.nil | refine Yd ?_ | refine Yp ?_ | refine FrLe.cons rfl (AVle.le (D.le_pol hst.symm)) ?_)) (by repeat (first | exact HpLe.nil | apply Yv))
  ·obtain rfl : k = min X.length terms := by omega
   rcases (show X.length≤terms∨terms<X.length by omega) with ht | ht
   all_goals
    repeat (first | apply AWp.seq | apply AWp.region | (refine AWs.q rfl rfl ?_;first | (apply Gt.move;refine ⟨_,Qs.move (ao rfl),?_⟩) | (apply Gt.assign;refine ⟨_,Qs.assign (ao rfl),?_⟩) | (apply Gt.load;refine ⟨_,Qs.ldD1 (ao rfl) rfl (tab_of rfl) rfl rfl,?_⟩) | (apply Gt.fieldAddr;refine ⟨_,Qs.fldP (ao rfl) (tab_of rfl) rfl (tab_of rfl) rfl,?_⟩) | (apply Gt.len;refine ⟨_,Qs.lenN rfl (tab_of rfl),?_⟩) | (apply Gt.bin;first | refine ⟨_,Qs.cmpT rfl (ao rfl) (ao rfl) (by first | (simp only [cmpP,List.length_cons,List.length_nil];omega) | (simp [cmpP];done) | (simp [cmpP];omega)),?_⟩ | refine ⟨_,Qs.cmpF rfl (ao rfl) (ao rfl) (by first | (simp only [cmpP,List.length_cons,List.length_nil];omega) | (simp [cmpP];done) | (simp [cmpP];omega)),?_⟩) | (apply Gt.pick;first | refine ⟨_,Qs.pickT (ao rfl) (ao rfl),?_⟩ | refine ⟨_,Qs.pickF (ao rfl) (ao rfl),?_⟩)) | refine AWs.sG rfl rfl rfl rfl rfl ?_ | (refine AWs.qG rfl rfl rfl rfl rfl ?_;first | (apply Gt.move;refine ⟨_,Qs.move (ao rfl),?_⟩) | (apply Gt.bin;refine ⟨_,Qs.cmpF rfl (ao rfl) (ao rfl) (by first | (simp only [cmpP,List.length_cons,List.length_nil];omega) | (simp [cmpP];done) | (simp [cmpP];omega)),?_⟩)) | apply AWl.nil | apply Yn | apply AWp.exit | apply AWp.ret | apply AThen.exit | apply ABlock.hit | apply ALoop.exit | (apply Gc.cond;refine Cf ?_))
    exact Yf
def degL (P : List Tm):Int:=P.foldl (fun d t=>max d (sumTo t.m 8)) (-1)
theorem degL_take {P : List Tm} {k:Nat} (h:k<P.length):degL (P.take (k+1)) = max (degL (P.take k)) (sumTo (tAt P k).m 8):=foldl_tAt (fun d t=>max d (sumTo t.m 8)) (-1) h
theorem PDeg_abs (P : List Tm) (hP:PIn P 0 65535) (hn:P.length≤1000000):Abs Tryz.prog 37 [polD P] (ex (.int .i64 (degL P))):=by
 refine Ab Tryz.func37 fun s0=>?_
 rw [Tryz.ntmps37]
 apply Y1;refine Wa ?_;apply Y0;apply Y1;refine Wa ?_;apply Y0;apply AWp.seq;apply Y1;refine Wm ?_;refine Wq Qz.lenN ?_;refine Wm ?_;apply Y0;apply AWp.block
 refine AWp.loop (fun mz σ=>∃ k,k≤P.length∧mz = P.length - k∧σ = ⟨[(3,.d (ex (.int .i64 (degL (P.take k))))),(6,.d (polD P)),(7,.d (ex (.int .i64 (P.length:Nat)))),(8,.d (ex (.int .i64 (k:Nat))))],[]⟩) ?le ⟨0,by omega,rfl,rfl⟩ ?round
 case le=>exact AS.le_of (by refine Yd ?_;refine Yd ?_;refine Yd ?_;refine Yd ?_;exact FrLe.nil) (by exact HpLe.nil)
 case round =>
  rintro mz _ ⟨k,hk,rfl,rfl⟩
  by_cases hlt:k<P.length
  ·have hin:=hP _ (tAt_mem hlt)
   have hst:=degL_take hlt
   apply Y1;refine Wq Qz.cmpT ?_;apply Y0;apply AWp.seq;refine Ct ?_;apply Ys;apply AWp.seq;apply AWp.block;apply Y1;refine Wq Qz.indexN ?_;refine Wq Qz.loadEf ?_;refine AWs.al (tab_of rfl) rfl rfl rfl rfl rfl rfl ?_;refine Sf ?_;apply Y0;apply AWp.region;refine Wm ?_;refine Wq Qz.fldP ?_;refine Wq Qz.ldD ?_;refine Wq (Qz.call (mDegree_abs (tAt P k).m (hin.mono (by omega) (by omega)))) ?_;refine Wq Qz.max ?_;refine Wa ?_;apply AWl.nil;apply ABlock.normal;apply Yn;apply AWp.region;refine Wq Qz.succ ?_;refine Wm ?_;apply AWl.nil
   refine ALoop.next (P.length - (k+1)) (by omega) ⟨k+1,by omega,rfl,rfl⟩ ?_
   exact AS.le_of (by refine FrLe.cons rfl (AVle.int hst.symm) ?_;refine Yd ?_;refine Yd ?_;refine Yd ?_;exact FrLe.nil) (by exact HpLe.nil)
  ·obtain rfl : k = P.length := by omega
   apply Y1;refine Wq Qz.cmpF ?_;apply Y0;apply AWp.seq;refine Cf ?_;apply AWp.exit;apply AThen.exit;apply ALoop.exit;apply ABlock.hit;apply Yn;apply Y1;refine Wm ?_;refine Wa ?_;apply Y0;apply AWp.ret
   exact Fin.ret (Rets.of1 (ResV.tmp rfl rfl) (D.le.of_eq (by rw [List.take_length])))
theorem mulL_nil_right (P : List Tm):mulL P [] = []:=by simp [mulL]
theorem sub_sim {P Q P' Q':List Tm} (h:Sim P P') (k:Sim Q Q'):Sim (psub P Q) (P' ++ neg Q'):=(mrg_sim _ _).trans (h.append (neg_sim k))
theorem add_sim {P Q P' Q':List Tm} (h:Sim P P') (k:Sim Q Q'):Sim (mrg P Q) (P' ++ Q'):=(mrg_sim _ _).trans (h.append k)
theorem mul_sim {P Q P' Q':List Tm} (h:Sim P P') (k:Sim Q Q'):Sim (pmul P Q) (mulL P' Q'):=(pmul_sim _ _).trans (h.mul k)
theorem constL_one : constL (1:Int) = [⟨1,fun _=>0⟩]:=by
 rw [constL,if_neg (by decide)]
 rfl
theorem pmul_comm (P Q:List Tm):Sim (pmul P Q) (pmul Q P):=(pmul_sim _ _).trans ((mulL_comm P Q).trans (pmul_sim _ _).symm)
theorem got_abs (P : List Tm):Abs Tryz.prog 17 [polD P,ex (.int .i64 0)] (polD P):=by
 refine Ab Tryz.func17 fun s0=>?_
 rw [Tryz.ntmps17]
 repeat (first | apply AWp.seq | apply AWp.region | (refine AWs.q rfl rfl ?_;first | (apply Gt.move;refine ⟨_,Qs.move (ao rfl),?_⟩) | (apply Gt.assign;refine ⟨_,Qs.assign (ao rfl),?_⟩) | (apply Gt.bin;refine ⟨_,Qs.cmpF rfl (ao rfl) (ao rfl) (by first | (simp only [cmpP,List.length_cons,List.length_nil];omega) | (simp [cmpP];done) | (simp [cmpP];omega)),?_⟩)) | apply AWl.nil | apply Yn | apply AWp.skip | apply AWp.ret | (apply Gc.cond;refine Cf ?_))
 exact Yf
theorem poly_abs (T : Nat) (X:List (Nat→Int)) (hX:Raw8 X):Abs Tryz.prog 16 [agD [r5D T X]] (polD (madeP X 4 5 6)):=by
 refine Ab Tryz.func16 fun s0=>?_
 rw [Tryz.ntmps16]
 repeat (first | apply AWp.seq | apply AWp.region | (apply Ga.box;refine AWs.bx (ao rfl) rfl rfl rfl rfl ?_) | (refine AWs.q rfl rfl ?_;first | (apply Gt.assign;refine ⟨_,Qs.assign (ao rfl),?_⟩) | (apply Gt.load;refine ⟨_,Qs.ldD (ao rfl) rfl (tab_of rfl) rfl rfl,?_⟩) | (apply Gt.callv;refine ⟨_,Qs.call (ao rfl) (RMade_abs T X 4 6 5 hX (by omega) (by omega) (by omega) (by omega)) (by first | ((repeat (first | exact ArgsLe.nil | refine ArgsLe.cons rfl (D.le.refl _) ?_ | refine ArgsLe.cons rfl D.le_nil ?_));done) | fail),?_⟩)) | apply AWl.nil | apply Yn | apply AWp.ret)
 exact Yf
def xT : Tm:=⟨1,unitE 0⟩
def yT : Tm:=⟨1,unitE 1⟩
def yyT : Tm:=⟨1*1,add8 (unitE 1) (unitE 1)⟩
theorem var_pb (i : Nat):PB [⟨1,unitE i⟩] 1 1 1:=one_pb unitE_in
theorem one_pol : PB (constL (1:Int)) 1 1 1:=constL_pb (rsz_sm (by omega) (by omega)) (by omega)
theorem pmul_yy : pmul [yT] [yT] = [yyT]:=by
 show mrg [] [yyT] = [yyT]
 rw [nil_mrg]
theorem sum_xyy : mrg [xT] [yyT] = [xT,yyT]:=by
 rw [mrg_gt (show lx xT.m yyT.m = 1 by decide),nil_mrg]
theorem yy_pb : PB [yyT] 1 3 2:=by
 rw [← pmul_yy]
 exact (var_pb 1).mul (var_pb 1) (by omega) (by omega)
theorem ones_in (i : Nat) (hi:i<8):-1000≤onesOf 255 i∧onesOf 255 i≤1000:=by
 unfold onesOf
 omega
theorem lead_xyy : leadF [onesOf 255] xT [yyT] = yyT:=by
 show upT [onesOf 255] xT yyT = yyT
 rw [upT,if_pos (by decide)]
theorem square_sim : Sim (pmul (mrg [xT] (constL (1:Int))) (psub [xT] (constL (1:Int)))) (psub (pmul [xT] [xT]) (constL (1:Int))):=by
 refine (mul_sim (add_sim (Sim.refl _) (Sim.refl _)) (sub_sim (Sim.refl _) (Sim.refl _))).trans (Sim.symm ((sub_sim (pmul_sim _ _) (Sim.refl _)).trans ?_))
 intro f hf
 rw [constL_one]
 simp only [mulL,neg,fT,xT,List.map_cons,List.map_nil,List.flatMap_cons,List.flatMap_nil,List.cons_append,List.nil_append,dot]
 rw [add8_zero,zero_add8,add8_zero]
 grind
theorem sanity_abs : Abs Tryz.prog 13 [] (ex (.bool true)):=by
 have hx:=var_pb 0
 have hy:=var_pb 1
 have h1:=one_pol
 have ha:=hx.add h1
 have hs:=hx.sub h1
 have hm:=ha.mul hs (by omega) (by omega)
 have hxx:=hx.mul hx (by omega) (by omega)
 have hd:=hxx.sub h1
 have cyy:=PMul_pb hy hy (by omega) (by omega) (by omega) (by omega) (by omega)
 rw [show pmul [⟨1,unitE 1⟩] [⟨1,unitE 1⟩] = [yyT] from pmul_yy] at cyy
 have csum:=PAdd_pb hx yy_pb (by omega) (by omega)
 rw [show mrg [⟨1,unitE 0⟩] [yyT] = [xT,yyT] from sum_xyy] at csum
 have clead := PLead_abs xT [yyT] [onesOf 255] (fun r hr => by rw [List.mem_singleton.1 hr]; exact fun i hi => ones_in i hi) ((show PIn [xT, yyT] 0 2 from fun t ht => by
  rcases List.mem_cons.1 ht with rfl | ht
  ·exact (hx.ex _ (by simp [xT])).mono (by omega) (by omega)
  ·exact yy_pb.ex t ht).mono (by omega) (by omega)) (by simp)
 rw [lead_xyy] at clead
 have csq:=RSame_sim hm.can hd.can square_sim
 have cval:=PValid_pb hm (by omega) (by omega) (by omega)
 refine Ab Tryz.func13 fun s0=>?_
 rw [Tryz.ntmps13]
 have hyy:eqB yyT.m (fun i=>([0,2]:List Int).getD i 0) = true:=by decide
 repeat (first | refine AWs.qG rfl rfl rfl rfl rfl ?_;refine ⟨_,Qs.eqMonT (a:=yyT.m) (b:=fun i=>([0,2]:List Int).getD i 0) (ao rfl) (ao rfl) hyy,?_⟩ | apply AWp.seq | apply AWp.region | (apply Ga.alloc;refine AWs.al (tab_of rfl) rfl rfl rfl rfl rfl rfl ?_) | (apply Ga.store;refine Sf ?_) | (refine AWs.q rfl rfl ?_;first | (apply Gt.move;refine ⟨_,Qs.move (ao rfl),?_⟩) | (apply Gt.assign;refine ⟨_,Qs.assign (ao rfl),?_⟩) | (apply Gt.bin;refine ⟨_,Qs.cmpF rfl (ao rfl) (ao rfl) (by first | (simp only [cmpP,List.length_cons,List.length_nil];omega) | (simp [cmpP];done) | (simp [cmpP];omega)),?_⟩) | (apply Gt.ext;refine ⟨_,Qs.ext (ao rfl) rfl,?_⟩) | (apply Gt.pick;first | refine ⟨_,Qs.pickT (ao rfl) (ao rfl),?_⟩ | refine ⟨_,Qs.pickF (ao rfl) (ao rfl),?_⟩) | (apply Gt.callv;first | refine ⟨_,Qs.call (ao rfl) (PVar_abs 0 (by omega)) (by first | ((repeat (first | exact ArgsLe.nil | refine ArgsLe.cons rfl (D.le.refl _) ?_ | refine ArgsLe.cons rfl D.le_nil ?_));done) | fail),?_⟩ | refine ⟨_,Qs.call (ao rfl) (PVar_abs 1 (by omega)) (by first | ((repeat (first | exact ArgsLe.nil | refine ArgsLe.cons rfl (D.le.refl _) ?_ | refine ArgsLe.cons rfl D.le_nil ?_));done) | fail),?_⟩ | refine ⟨_,Qs.call (ao rfl) (RWhole_abs 1 (by omega) (by omega)) (by first | ((repeat (first | exact ArgsLe.nil | refine ArgsLe.cons rfl (D.le.refl _) ?_ | refine ArgsLe.cons rfl D.le_nil ?_));done) | fail),?_⟩ | refine ⟨_,Qs.call (ao rfl) (PConst_abs (1:Int)) (by first | ((repeat (first | exact ArgsLe.nil | refine ArgsLe.cons rfl (D.le.refl _) ?_ | refine ArgsLe.cons rfl D.le_nil ?_));done) | fail),?_⟩ | refine ⟨_,Qs.call (ao rfl) (RX_abs 0 (by omega)) (by first | ((repeat (first | exact ArgsLe.nil | refine ArgsLe.cons rfl (D.le.refl _) ?_ | refine ArgsLe.cons rfl D.le_nil ?_));done) | fail),?_⟩ | refine ⟨_,Qs.call (ao rfl) (RInt_abs 1 (by omega) (by omega)) (by first | ((repeat (first | exact ArgsLe.nil | refine ArgsLe.cons rfl (D.le.refl _) ?_ | refine ArgsLe.cons rfl D.le_nil ?_));done) | fail),?_⟩ | refine ⟨_,Qs.call (ao rfl) (PAdd_pb hx h1 (by omega) (by omega)) (by first | ((repeat (first | exact ArgsLe.nil | refine ArgsLe.cons rfl (D.le.refl _) ?_ | refine ArgsLe.cons rfl D.le_nil ?_));done) | fail),?_⟩ | refine ⟨_,Qs.call (ao rfl) (PSub_pb hx h1 (by omega) (by omega)) (by first | ((repeat (first | exact ArgsLe.nil | refine ArgsLe.cons rfl (D.le.refl _) ?_ | refine ArgsLe.cons rfl D.le_nil ?_));done) | fail),?_⟩ | refine ⟨_,Qs.call (ao rfl) (PMul_pb ha hs (by omega) (by omega) (by omega) (by omega) (by omega)) (by first | ((repeat (first | exact ArgsLe.nil | refine ArgsLe.cons rfl (D.le.refl _) ?_ | refine ArgsLe.cons rfl D.le_nil ?_));done) | fail),?_⟩ | refine ⟨_,Qs.call (ao rfl) (got_abs _) (by first | ((repeat (first | exact ArgsLe.nil | refine ArgsLe.cons rfl (D.le.refl _) ?_ | refine ArgsLe.cons rfl D.le_nil ?_));done) | fail),?_⟩ | refine ⟨_,Qs.call (ao rfl) (cyy) (by first | ((repeat (first | exact ArgsLe.nil | refine ArgsLe.cons rfl (D.le.refl _) ?_ | refine ArgsLe.cons rfl D.le_nil ?_));done) | fail),?_⟩ | refine ⟨_,Qs.call (ao rfl) (csum) (by first | ((repeat (first | exact ArgsLe.nil | refine ArgsLe.cons rfl (D.le.refl _) ?_ | refine ArgsLe.cons rfl D.le_nil ?_));done) | fail),?_⟩ | refine ⟨_,Qs.call (ao rfl) (RGraded_abs) (by first | ((repeat (first | exact ArgsLe.nil | refine ArgsLe.cons rfl (D.le.refl _) ?_ | refine ArgsLe.cons rfl D.le_nil ?_));done) | fail),?_⟩ | refine ⟨_,Qs.call (ao rfl) (clead) (by first | ((repeat (first | exact ArgsLe.nil | refine ArgsLe.cons rfl (D.le.refl _) ?_ | refine ArgsLe.cons rfl D.le_nil ?_));done) | fail),?_⟩ | refine ⟨_,Qs.call (ao rfl) (RLex_abs) (by first | ((repeat (first | exact ArgsLe.nil | refine ArgsLe.cons rfl (D.le.refl _) ?_ | refine ArgsLe.cons rfl D.le_nil ?_));done) | fail),?_⟩ | refine ⟨_,Qs.call (ao rfl) (PLead0_abs []) (by first | ((repeat (first | exact ArgsLe.nil | refine ArgsLe.cons rfl (D.le.refl _) ?_ | refine ArgsLe.cons rfl D.le_nil ?_));done) | fail),?_⟩ | refine ⟨_,Qs.call (ao rfl) (RBy_pb hx hx (by omega) (by omega) (by omega) (by omega) (by omega) (by omega)) (by first | ((repeat (first | exact ArgsLe.nil | refine ArgsLe.cons rfl (D.le.refl _) ?_ | refine ArgsLe.cons rfl D.le_nil ?_));done) | fail),?_⟩ | refine ⟨_,Qs.call (ao rfl) (RSub_pb hxx h1 (by omega) (by omega) (by omega)) (by first | ((repeat (first | exact ArgsLe.nil | refine ArgsLe.cons rfl (D.le.refl _) ?_ | refine ArgsLe.cons rfl D.le_nil ?_));done) | fail),?_⟩ | refine ⟨_,Qs.call (ao rfl) (csq) (by first | ((repeat (first | exact ArgsLe.nil | refine ArgsLe.cons rfl (D.le.refl _) ?_ | refine ArgsLe.cons rfl D.le_nil ?_));done) | fail),?_⟩)) | (refine AWs.qG rfl rfl rfl rfl rfl ?_;first | (apply Gt.move;refine ⟨_,Qs.move (ao rfl),?_⟩) | (apply Gt.load;refine ⟨_,Qs.ldD (ao rfl) rfl (tab_of rfl) rfl rfl,?_⟩) | (apply Gt.fieldAddr;refine ⟨_,Qs.fldP (ao rfl) (tab_of rfl) rfl (tab_of rfl) rfl,?_⟩) | (apply Gt.bin;first | refine ⟨_,Qs.cmpF rfl (ao rfl) (ao rfl) (by first | (simp only [cmpP,List.length_cons,List.length_nil];omega) | (simp [cmpP];done) | (simp [cmpP];omega)),?_⟩ | refine ⟨_,Qs.cmp (ao rfl) (ao rfl) rfl,?_⟩) | (apply Gt.un;refine ⟨_,Qs.not (ao rfl),?_⟩) | (apply Gt.build;(refine Bq.arr (tab_of rfl) (tab_of rfl) rfl rfl ?_;(repeat ((first | refine ⟨_,PartOk.ag (ao rfl),?_⟩ | refine ⟨_,PartOk.one rfl (by first | exact One.ex_ rfl | exact One.sl | exact One.ep),?_⟩);refine ⟨_,rfl,?_⟩));refine ⟨_,rfl,?_⟩)) | (apply Gt.callv;first | refine ⟨_,Qs.call (ao rfl) (RX_abs 0 (by omega)) (by first | ((repeat (first | exact ArgsLe.nil | refine ArgsLe.cons rfl (D.le.refl _) ?_ | refine ArgsLe.cons rfl D.le_nil ?_));done) | fail),?_⟩ | refine ⟨_,Qs.call (ao rfl) (RX_abs 1 (by omega)) (by first | ((repeat (first | exact ArgsLe.nil | refine ArgsLe.cons rfl (D.le.refl _) ?_ | refine ArgsLe.cons rfl D.le_nil ?_));done) | fail),?_⟩ | refine ⟨_,Qs.call (ao rfl) (RSame_true (SameL.refl [⟨1,unitE 0⟩])) (by first | ((repeat (first | exact ArgsLe.nil | refine ArgsLe.cons rfl (D.le.refl _) ?_ | refine ArgsLe.cons rfl D.le_nil ?_));done) | fail),?_⟩ | refine ⟨_,Qs.call (ao rfl) (RSame_true (SameL.refl [⟨1,unitE 1⟩])) (by first | ((repeat (first | exact ArgsLe.nil | refine ArgsLe.cons rfl (D.le.refl _) ?_ | refine ArgsLe.cons rfl D.le_nil ?_));done) | fail),?_⟩ | refine ⟨_,Qs.call (ao rfl) (RSame_true (SameL.refl (constL (1:Int)))) (by first | ((repeat (first | exact ArgsLe.nil | refine ArgsLe.cons rfl (D.le.refl _) ?_ | refine ArgsLe.cons rfl D.le_nil ?_));done) | fail),?_⟩ | refine ⟨_,Qs.call (ao rfl) (RInt_abs 1 (by omega) (by omega)) (by first | ((repeat (first | exact ArgsLe.nil | refine ArgsLe.cons rfl (D.le.refl _) ?_ | refine ArgsLe.cons rfl D.le_nil ?_));done) | fail),?_⟩ | refine ⟨_,Qs.call (ao rfl) (cval) (by first | ((repeat (first | exact ArgsLe.nil | refine ArgsLe.cons rfl (D.le.refl _) ?_ | refine ArgsLe.cons rfl D.le_nil ?_));done) | fail),?_⟩ | refine ⟨_,Qs.call (ao rfl) (PDeg_abs [] (fun t h=>(by cases h)) (by simp)) (by first | ((repeat (first | exact ArgsLe.nil | refine ArgsLe.cons rfl (D.le.refl _) ?_ | refine ArgsLe.cons rfl D.le_nil ?_));done) | fail),?_⟩)) | apply AWl.nil | apply Yn | apply AWp.skip | apply AWp.ret | (apply Gc.cond;refine Cf ?_))
 exact Yf
def maxTo (a b:Nat→Int) (k:Nat):Nat→Int:=fun j=>if j<k then max (a j) (b j) else a j
theorem maxTo_set (a b:Nat→Int) (k:Nat):setM (maxTo a b k) k (max (a k) (b k)) = maxTo a b (k+1):=by
 funext j
 simp only [setM,maxTo]
 rcases Nat.lt_trichotomy j k with h | h | h
 ·rw [if_neg (by omega),if_pos h,if_pos (by omega)]
 ·subst h;simp
 ·rw [if_neg (by omega),if_neg (by omega),if_neg (by omega)]
theorem maxTo_at (a b:Nat→Int) (k:Nat):maxTo a b k k = a k:=if_neg (Nat.lt_irrefl k)
def max8 (a b:Nat→Int):Nat→Int:=fun j=>max (a j) (b j)
theorem mLcm_abs (a b:Nat→Int):Abs Tryz.prog 148 [agD (monC a),agD (monC b)] (agD (monC (max8 a b))):=by
 refine Ab Tryz.func148 fun s0=>?_
 rw [Tryz.ntmps148]
 apply Y1;refine AWs.bx (ao rfl) rfl rfl rfl rfl ?_;refine AWs.bx (ao rfl) rfl rfl rfl rfl ?_;refine AWs.al (tab_of rfl) rfl rfl rfl rfl rfl rfl ?_;apply Y0;apply AWp.seq;apply Y1;refine Wm ?_;apply Y0;apply AWp.block
 refine AWp.loop (fun mz σ=>∃ k,k≤8∧mz = 8 - k∧σ = ⟨[(2,.ptr 0 0),(3,.ptr 1 0),(4,.ptr 2 0),(6,.d (ex (.int .i64 (k:Nat))))],[.var 31 ((monC (maxTo a b k)).map .d),.var 31 ((monC b).map .d),.var 31 ((monC fun _=>0).map .d)]⟩) ?le ⟨0,by omega,rfl,rfl⟩ ?round
 case le=>exact AS.le_of (by refine Yp ?_;refine Yp ?_;refine Yp ?_;refine Yd ?_;exact FrLe.nil) (by apply Yv;apply Yv;apply Yv;exact HpLe.nil)
 case round =>
  rintro mz _ ⟨k,hk,rfl,rfl⟩
  by_cases hlt:k<8
  ·have h1:=maxTo_at a b k
   apply Y1;refine Wq Qz.cmpT ?_;apply Y0;apply AWp.seq;refine Ct ?_;apply Ys;apply AWp.seq;apply AWp.block;apply Y1;refine Wm ?_;refine Wa ?_;apply Y0
   refine AWp.dr' (DrawOk.self (by kernel_rfl)) [[],[],[(10,1)],[(11,2)],[],[(13,4)],[(14,5)],[(12,3),(15,6)],[(9,0)]] [[],[],[1],[1,2],[],[4],[4,5],[1,2,3,4,5,6],[0,1,2,3,4,5,6,7]] rfl (by kernel_rfl) (by kernel_rfl) (by kernel_rfl) ?_
   refine Xq Qz.move ?_;refine Xq Qz.move ?_;refine Xq Qz.ixP ?_;refine Xq Qz.ldX1 ?_;refine Xq Qz.move ?_;refine Xq Qz.ixP ?_;refine Xq Qz.ldX1 ?_;refine Xq Qz.max ?_;refine Xq Qz.ixP ?_;refine ⟨_,rfl,?_⟩
   (refine AWs.stX1 (ao rfl) (ao rfl) rfl (tab_of rfl) (by first | exact One.ex_ rfl | exact One.sl | exact One.ep) (SetAt.mon (by first | omega | (simp;omega))) rfl ?_);apply AWl.nil;apply ABlock.normal;apply Yn;apply AWp.region;refine Wq Qz.succ ?_;refine Wm ?_;apply AWl.nil
   refine ALoop.next (8 - (k+1)) (by omega) ⟨k+1,by omega,rfl,rfl⟩ ?_
   exact AS.le_of (by refine Yp ?_;refine Yp ?_;refine Yp ?_;refine Yd ?_;exact FrLe.nil) (by refine HpLe.cons (OwLe.varD (by rw [h1,maxTo_set])) ?_;apply Yv;apply Yv;exact HpLe.nil)
  ·obtain rfl : k = 8 := by omega
   apply Y1;refine Wq Qz.cmpF ?_;apply Y0;apply AWp.seq;refine Cf ?_;apply AWp.exit;apply AThen.exit;apply ALoop.exit;apply ABlock.hit;apply Yn;apply Y1;refine Wq Qz.ldD ?_;refine Sf ?_;apply Y0;apply AWp.ret
   exact Fin.ret (Rets.of1 (ResV.cell rfl rfl (tab_of rfl) rfl rfl rfl) (D.le.refl _))
def degV (P : List Tm):Nat→Int:=P.foldl (fun d t=>max8 d t.m) fun _=>0
theorem degV_take {P : List Tm} {k:Nat} (h:k<P.length):degV (P.take (k+1)) = max8 (degV (P.take k)) (tAt P k).m:=foldl_tAt (fun d t=>max8 d t.m) (fun _=>0) h
theorem degV_in {P : List Tm} {d:Int} (h:PIn P 0 d) (h0:0≤d):In8 (degV P) 0 d:=by
 have key:∀ (P:List Tm) (a:Nat→Int),PIn P 0 d→In8 a 0 d→In8 (P.foldl (fun d t=>max8 d t.m) a) 0 d:=by
  intro P
  induction P with
  | nil=>intro a _ h;exact h
  | cons t P ih =>
   intro a h1 h2
   refine ih _ (fun u hu=>h1 u (by simp [hu])) fun i hi=>?_
   have:=h1 t (by simp) i hi
   have:=h2 i hi
   simp only [max8];omega
 exact key P _ h fun i _=>⟨Int.le_refl _,h0⟩
theorem degs_abs (P : List Tm) (hn:P.length≤1000000):Abs Tryz.prog 110 [polD P] (agD (monC (degV P))):=by
 refine Ab Tryz.func110 fun s0=>?_
 rw [Tryz.ntmps110]
 apply Y1;refine AWs.al (tab_of rfl) rfl rfl rfl rfl rfl rfl ?_;apply Y0;apply Y1;refine AWs.al (tab_of rfl) rfl rfl rfl rfl rfl rfl ?_;apply Y0;apply AWp.seq;apply Y1;refine Wm ?_;refine Wq Qz.lenN ?_;refine Wm ?_;apply Y0;apply AWp.block
 refine AWp.loop (fun mz σ=>∃ k,k≤P.length∧mz = P.length - k∧σ = ⟨[(2,.ptr 0 0),(3,.ptr 1 0),(6,.d (polD P)),(7,.d (ex (.int .i64 (P.length:Nat)))),(8,.d (ex (.int .i64 (k:Nat))))],[.var 30 ((monC fun _=>0).map .d),.var 31 ((monC (degV (P.take k))).map .d)]⟩) ?le ⟨0,by omega,rfl,rfl⟩ ?round
 case le=>exact AS.le_of (by refine Yp ?_;refine Yp ?_;refine Yd ?_;refine Yd ?_;refine Yd ?_;exact FrLe.nil) (by apply Yv;apply Yv;exact HpLe.nil)
 case round =>
  rintro mz _ ⟨k,hk,rfl,rfl⟩
  by_cases hlt:k<P.length
  ·have hst:=degV_take hlt
   apply Y1;refine Wq Qz.cmpT ?_;apply Y0;apply AWp.seq;refine Ct ?_;apply Ys;apply AWp.seq;apply AWp.block;apply Y1;refine Wq Qz.indexN ?_;refine Wq Qz.loadEf ?_;refine AWs.al (tab_of rfl) rfl rfl rfl rfl rfl rfl ?_;refine Sf ?_;apply Y0;apply AWp.region;refine Wq Qz.ldD ?_;refine Wq Qz.fldP ?_;refine Wq Qz.ldD ?_;refine Wq (Qz.call (mLcm_abs (degV (P.take k)) (tAt P k).m)) ?_;refine Sf ?_;apply AWl.nil;apply ABlock.normal;apply Yn;apply AWp.region;refine Wq Qz.succ ?_;refine Wm ?_;apply AWl.nil
   refine ALoop.next (P.length - (k+1)) (by omega) ⟨k+1,by omega,rfl,rfl⟩ ?_
   exact AS.le_of (by refine Yp ?_;refine Yp ?_;refine Yd ?_;refine Yd ?_;refine Yd ?_;exact FrLe.nil) (by apply Yv;refine HpLe.cons (OwLe.varD (by rw [hst])) ?_;exact HpLe.nil)
  ·obtain rfl : k = P.length := by omega
   apply Y1;refine Wq Qz.cmpF ?_;apply Y0;apply AWp.seq;refine Cf ?_;apply AWp.exit;apply AThen.exit;apply ALoop.exit;apply ABlock.hit;apply Yn;apply Y1;refine Wq Qz.ldD ?_;refine Sf ?_;apply Y0;apply AWp.ret
   exact Fin.ret (Rets.of1 (ResV.cell rfl rfl (tab_of rfl) rfl rfl rfl) (D.le.of_eq (by rw [List.take_length];rfl)))
theorem vanF_abs (m : Nat→Int) (B:Nat→List Tm) (hB:∀ i,i<8→(B i).length≤100000) (h:∀ i,i<8→0<m i→0<(B i).length):Abs Tryz.prog 111 [agD (monC m),agD (pol8 B)] (ex (.bool false)):=by
 refine Ab Tryz.func111 fun s0=>?_
 rw [Tryz.ntmps111]
 apply Y1;refine AWs.bx (ao rfl) rfl rfl rfl rfl ?_;refine AWs.bx (ao rfl) rfl rfl rfl rfl ?_;refine Wa ?_;apply Y0;apply AWp.seq;apply Y1;refine Wq Qz.ldD ?_;refine Wm ?_;apply Y0;apply AWp.block
 refine AWp.loop (fun mz σ=>∃ k,k≤8∧mz = 8 - k∧σ = ⟨[(2,.ptr 0 0),(3,.ptr 1 0),(7,.d (agD (monC m))),(8,.d (ex (.int .i64 (k:Nat))))],[.var 31 ((monC m).map .d),.var 77 ((pol8 B).map .d)]⟩) ?le ⟨0,by omega,rfl,rfl⟩ ?round
 case le=>exact AS.le_of (by refine Yp ?_;refine Yp ?_;refine Yd ?_;refine Yd ?_;exact FrLe.nil) (by apply Yv;apply Yv;exact HpLe.nil)
 case round =>
  rintro mz _ ⟨k,hk,rfl,rfl⟩
  by_cases hlt:k<8
  ·have h1:=h k hlt
   have h2:=hB k hlt
   by_cases h0:0<m k
   ·have h3:=h1 h0
    apply Y1;refine Wq Qz.cmpT ?_;apply Y0;apply AWp.seq;refine Ct ?_;apply Ys;apply AWp.seq;apply AWp.block;apply Y1;refine Wm ?_;refine Wq Qz.atX1 ?_;refine Wa ?_;refine Wa ?_;apply Y0;apply Y1;refine Wm ?_;refine Wq Qz.cmpT ?_;refine Wm ?_;refine Wg Qz.move ?_;refine Wg Qz.ixP ?_;(refine AWs.qG rfl rfl rfl rfl rfl ?_;refine ⟨_,Qs.ldX1 (ao rfl) rfl (tab_of rfl) rfl (CellAt.p8 (by omega)),?_⟩);refine Wg Qz.lenN ?_;refine Wg Qz.cmpF ?_;refine Wq Qz.pickT ?_;apply Y0;refine Cf ?_;apply AWp.skip;apply ABlock.normal;apply Yn;apply AWp.region;refine Wq Qz.succ ?_;refine Wm ?_;apply AWl.nil
    refine ALoop.next (8 - (k+1)) (by omega) ⟨k+1,by omega,rfl,rfl⟩ ?_
    exact AS.le_of (by refine Yp ?_;refine Yp ?_;refine Yd ?_;refine Yd ?_;exact FrLe.nil) (by apply Yv;apply Yv;exact HpLe.nil)
   ·apply Y1;refine Wq Qz.cmpT ?_;apply Y0;apply AWp.seq;refine Ct ?_;apply Ys;apply AWp.seq;apply AWp.block;apply Y1;refine Wm ?_;refine Wq Qz.atX1 ?_;refine Wa ?_;refine Wa ?_;apply Y0;apply Y1;refine Wm ?_;refine Wq Qz.cmpF ?_;refine Wm ?_;refine Ws ?_;refine Ws ?_;refine Ws ?_;refine Ws ?_;refine Ws ?_;refine Wq Qz.pickF ?_;apply Y0;refine Cf ?_;apply AWp.skip;apply ABlock.normal;apply Yn;apply AWp.region;refine Wq Qz.succ ?_;refine Wm ?_;apply AWl.nil
    refine ALoop.next (8 - (k+1)) (by omega) ⟨k+1,by omega,rfl,rfl⟩ ?_
    exact AS.le_of (by refine Yp ?_;refine Yp ?_;refine Yd ?_;refine Yd ?_;exact FrLe.nil) (by apply Yv;apply Yv;exact HpLe.nil)
  ·obtain rfl : k = 8 := by omega
   apply Y1;refine Wq Qz.cmpF ?_;apply Y0;apply AWp.seq;refine Cf ?_;apply AWp.exit;apply AThen.exit;apply ALoop.exit;apply ABlock.hit;apply Yn;apply Y1;refine Wa ?_;apply Y0;apply AWp.ret
   exact Yf
theorem vanT_abs (m : Nat→Int) (B:Nat→List Tm) (z:Nat) (hz:z<8) (hB:∀ i,i<8→(B i).length≤100000) (h:∀ i,i<z→0<m i→0<(B i).length) (hm:0<m z) (hn:B z = []):Abs Tryz.prog 111 [agD (monC m),agD (pol8 B)] (ex (.bool true)):=by
 have hl:(B z).length = 0:=by rw [hn];rfl
 refine Ab Tryz.func111 fun s0=>?_
 rw [Tryz.ntmps111]
 apply Y1;refine AWs.bx (ao rfl) rfl rfl rfl rfl ?_;refine AWs.bx (ao rfl) rfl rfl rfl rfl ?_;refine Wa ?_;apply Y0;apply AWp.seq;apply Y1;refine Wq Qz.ldD ?_;refine Wm ?_;apply Y0;apply AWp.block
 refine AWp.loop (fun mz σ=>∃ k,k≤z∧mz = z - k∧σ = ⟨[(2,.ptr 0 0),(3,.ptr 1 0),(7,.d (agD (monC m))),(8,.d (ex (.int .i64 (k:Nat))))],[.var 31 ((monC m).map .d),.var 77 ((pol8 B).map .d)]⟩) ?le ⟨0,by omega,rfl,rfl⟩ ?round
 case le=>exact AS.le_of (by refine Yp ?_;refine Yp ?_;refine Yd ?_;refine Yd ?_;exact FrLe.nil) (by apply Yv;apply Yv;exact HpLe.nil)
 case round =>
  rintro mz _ ⟨k,hk,rfl,rfl⟩
  by_cases hlt:k<z
  ·have h1:=h k hlt
   have h2:=hB k (by omega)
   by_cases h0:0<m k
   ·have h3:=h1 h0
    apply Y1;refine Wq Qz.cmpT ?_;apply Y0;apply AWp.seq;refine Ct ?_;apply Ys;apply AWp.seq;apply AWp.block;apply Y1;refine Wm ?_;refine Wq Qz.atX1 ?_;refine Wa ?_;refine Wa ?_;apply Y0;apply Y1;refine Wm ?_;refine Wq Qz.cmpT ?_;refine Wm ?_;refine Wg Qz.move ?_;refine Wg Qz.ixP ?_;(refine AWs.qG rfl rfl rfl rfl rfl ?_;refine ⟨_,Qs.ldX1 (ao rfl) rfl (tab_of rfl) rfl (CellAt.p8 (by omega)),?_⟩);refine Wg Qz.lenN ?_;refine Wg Qz.cmpF ?_;refine Wq Qz.pickT ?_;apply Y0;refine Cf ?_;apply AWp.skip;apply ABlock.normal;apply Yn;apply AWp.region;refine Wq Qz.succ ?_;refine Wm ?_;apply AWl.nil
    refine ALoop.next (z - (k+1)) (by omega) ⟨k+1,by omega,rfl,rfl⟩ ?_
    exact AS.le_of (by refine Yp ?_;refine Yp ?_;refine Yd ?_;refine Yd ?_;exact FrLe.nil) (by apply Yv;apply Yv;exact HpLe.nil)
   ·apply Y1;refine Wq Qz.cmpT ?_;apply Y0;apply AWp.seq;refine Ct ?_;apply Ys;apply AWp.seq;apply AWp.block;apply Y1;refine Wm ?_;refine Wq Qz.atX1 ?_;refine Wa ?_;refine Wa ?_;apply Y0;apply Y1;refine Wm ?_;refine Wq Qz.cmpF ?_;refine Wm ?_;refine Ws ?_;refine Ws ?_;refine Ws ?_;refine Ws ?_;refine Ws ?_;refine Wq Qz.pickF ?_;apply Y0;refine Cf ?_;apply AWp.skip;apply ABlock.normal;apply Yn;apply AWp.region;refine Wq Qz.succ ?_;refine Wm ?_;apply AWl.nil
    refine ALoop.next (z - (k+1)) (by omega) ⟨k+1,by omega,rfl,rfl⟩ ?_
    exact AS.le_of (by refine Yp ?_;refine Yp ?_;refine Yd ?_;refine Yd ?_;exact FrLe.nil) (by apply Yv;apply Yv;exact HpLe.nil)
  ·obtain rfl : k = z := by omega
   apply Y1;refine Wq Qz.cmpT ?_;apply Y0;apply AWp.seq;refine Ct ?_;apply Ys;apply AWp.seq;apply AWp.block;apply Y1;refine Wm ?_;refine Wq Qz.atX1 ?_;refine Wa ?_;refine Wa ?_;apply Y0;apply Y1;refine Wm ?_;refine Wq Qz.cmpT ?_;refine Wm ?_;refine Wg Qz.move ?_;refine Wg Qz.ixP ?_;(refine AWs.qG rfl rfl rfl rfl rfl ?_;refine ⟨_,Qs.ldX1 (ao rfl) rfl (tab_of rfl) rfl (CellAt.p8 (by omega)),?_⟩);refine Wg Qz.lenN ?_;refine Wg Qz.cmpT ?_;refine Wq Qz.pickT ?_;apply Y0;refine Ct ?_;apply Y1;refine Wa ?_;apply Y0;apply AWp.ret;apply ABlock.ret;apply AThen.ret;apply ALoop.ret;apply ABlock.ret;apply AThen.ret
   exact Yf
theorem RvanF_abs (m : Nat→Int) (B:Nat→List Tm) (hB:∀ i,i<8→(B i).length≤100000) (h:∀ i,i<8→0<m i→0<(B i).length):Abs Tryz.prog 114 [agD (monC m),agD (pol8 B)] (ex (.bool false)):=by
 refine Ab Tryz.func114 fun s0=>?_
 rw [Tryz.ntmps114]
 apply Y1;refine AWs.bx (ao rfl) rfl rfl rfl rfl ?_;refine AWs.bx (ao rfl) rfl rfl rfl rfl ?_;refine Wa ?_;apply Y0;apply AWp.seq;apply Y1;refine Wa ?_;apply Y0;apply AWp.block
 refine AWp.loop (fun mz σ=>∃ k,k≤8∧mz = 8 - k∧σ = ⟨[(2,.ptr 0 0),(3,.ptr 1 0),(5,.d (ex (.int .i64 (k:Nat))))],[.var 31 ((monC m).map .d),.var 77 ((pol8 B).map .d)]⟩) ?le ⟨0,by omega,rfl,rfl⟩ ?round
 case le=>exact AS.le_of (by refine Yp ?_;refine Yp ?_;refine Yd ?_;exact FrLe.nil) (by apply Yv;apply Yv;exact HpLe.nil)
 case round =>
  rintro mz _ ⟨k,hk,rfl,rfl⟩
  by_cases hlt:k<8
  ·have h1:=h k hlt
   have h2:=hB k hlt
   by_cases h0:0<m k
   ·have h3:=h1 h0
    apply AWp.seq;apply Y1;refine Wm ?_;refine Wq Qz.cmpT ?_;apply Y0;refine Ct ?_;apply Ys;apply AWp.seq;apply AWp.block;apply Y1;refine Wm ?_;refine Wq Qz.ixP ?_;refine Wq Qz.ldX1 ?_;refine Wq Qz.cmpT ?_;refine Wm ?_;refine Wg Qz.move ?_;refine Wg Qz.ixP ?_;(refine AWs.qG rfl rfl rfl rfl rfl ?_;refine ⟨_,Qs.ldX1 (ao rfl) rfl (tab_of rfl) rfl (CellAt.p8 (by omega)),?_⟩);refine Wg Qz.lenN ?_;refine Wg Qz.cmpF ?_;refine Wq Qz.pickT ?_;apply Y0;refine Cf ?_;apply AWp.skip;apply ABlock.normal;apply Yn;apply AWp.region;refine Wm ?_;refine Wq Qz.succ ?_;refine Wa ?_;apply AWl.nil
    refine ALoop.next (8 - (k+1)) (by omega) ⟨k+1,by omega,rfl,rfl⟩ ?_
    exact AS.le_of (by refine Yp ?_;refine Yp ?_;refine Yd ?_;exact FrLe.nil) (by apply Yv;apply Yv;exact HpLe.nil)
   ·apply AWp.seq;apply Y1;refine Wm ?_;refine Wq Qz.cmpT ?_;apply Y0;refine Ct ?_;apply Ys;apply AWp.seq;apply AWp.block;apply Y1;refine Wm ?_;refine Wq Qz.ixP ?_;refine Wq Qz.ldX1 ?_;refine Wq Qz.cmpF ?_;refine Wm ?_;refine Ws ?_;refine Ws ?_;refine Ws ?_;refine Ws ?_;refine Ws ?_;refine Wq Qz.pickF ?_;apply Y0;refine Cf ?_;apply AWp.skip;apply ABlock.normal;apply Yn;apply AWp.region;refine Wm ?_;refine Wq Qz.succ ?_;refine Wa ?_;apply AWl.nil
    refine ALoop.next (8 - (k+1)) (by omega) ⟨k+1,by omega,rfl,rfl⟩ ?_
    exact AS.le_of (by refine Yp ?_;refine Yp ?_;refine Yd ?_;exact FrLe.nil) (by apply Yv;apply Yv;exact HpLe.nil)
  ·obtain rfl : k = 8 := by omega
   apply AWp.seq;apply Y1;refine Wm ?_;refine Wq Qz.cmpF ?_;apply Y0;refine Cf ?_;apply AWp.exit;apply AThen.exit;apply ALoop.exit;apply ABlock.hit;apply Yn;apply Y1;refine Wa ?_;apply Y0;apply AWp.ret
   exact Yf
theorem RvanT_abs (m : Nat→Int) (B:Nat→List Tm) (z:Nat) (hz:z<8) (hB:∀ i,i<8→(B i).length≤100000) (h:∀ i,i<z→0<m i→0<(B i).length) (hm:0<m z) (hn:B z = []):Abs Tryz.prog 114 [agD (monC m),agD (pol8 B)] (ex (.bool true)):=by
 have hl:(B z).length = 0:=by rw [hn];rfl
 refine Ab Tryz.func114 fun s0=>?_
 rw [Tryz.ntmps114]
 apply Y1;refine AWs.bx (ao rfl) rfl rfl rfl rfl ?_;refine AWs.bx (ao rfl) rfl rfl rfl rfl ?_;refine Wa ?_;apply Y0;apply AWp.seq;apply Y1;refine Wa ?_;apply Y0;apply AWp.block
 refine AWp.loop (fun mz σ=>∃ k,k≤z∧mz = z - k∧σ = ⟨[(2,.ptr 0 0),(3,.ptr 1 0),(5,.d (ex (.int .i64 (k:Nat))))],[.var 31 ((monC m).map .d),.var 77 ((pol8 B).map .d)]⟩) ?le ⟨0,by omega,rfl,rfl⟩ ?round
 case le=>exact AS.le_of (by refine Yp ?_;refine Yp ?_;refine Yd ?_;exact FrLe.nil) (by apply Yv;apply Yv;exact HpLe.nil)
 case round =>
  rintro mz _ ⟨k,hk,rfl,rfl⟩
  by_cases hlt:k<z
  ·have h1:=h k hlt
   have h2:=hB k (by omega)
   by_cases h0:0<m k
   ·have h3:=h1 h0
    apply AWp.seq;apply Y1;refine Wm ?_;refine Wq Qz.cmpT ?_;apply Y0;refine Ct ?_;apply Ys;apply AWp.seq;apply AWp.block;apply Y1;refine Wm ?_;refine Wq Qz.ixP ?_;refine Wq Qz.ldX1 ?_;refine Wq Qz.cmpT ?_;refine Wm ?_;refine Wg Qz.move ?_;refine Wg Qz.ixP ?_;(refine AWs.qG rfl rfl rfl rfl rfl ?_;refine ⟨_,Qs.ldX1 (ao rfl) rfl (tab_of rfl) rfl (CellAt.p8 (by omega)),?_⟩);refine Wg Qz.lenN ?_;refine Wg Qz.cmpF ?_;refine Wq Qz.pickT ?_;apply Y0;refine Cf ?_;apply AWp.skip;apply ABlock.normal;apply Yn;apply AWp.region;refine Wm ?_;refine Wq Qz.succ ?_;refine Wa ?_;apply AWl.nil
    refine ALoop.next (z - (k+1)) (by omega) ⟨k+1,by omega,rfl,rfl⟩ ?_
    exact AS.le_of (by refine Yp ?_;refine Yp ?_;refine Yd ?_;exact FrLe.nil) (by apply Yv;apply Yv;exact HpLe.nil)
   ·apply AWp.seq;apply Y1;refine Wm ?_;refine Wq Qz.cmpT ?_;apply Y0;refine Ct ?_;apply Ys;apply AWp.seq;apply AWp.block;apply Y1;refine Wm ?_;refine Wq Qz.ixP ?_;refine Wq Qz.ldX1 ?_;refine Wq Qz.cmpF ?_;refine Wm ?_;refine Ws ?_;refine Ws ?_;refine Ws ?_;refine Ws ?_;refine Ws ?_;refine Wq Qz.pickF ?_;apply Y0;refine Cf ?_;apply AWp.skip;apply ABlock.normal;apply Yn;apply AWp.region;refine Wm ?_;refine Wq Qz.succ ?_;refine Wa ?_;apply AWl.nil
    refine ALoop.next (z - (k+1)) (by omega) ⟨k+1,by omega,rfl,rfl⟩ ?_
    exact AS.le_of (by refine Yp ?_;refine Yp ?_;refine Yd ?_;exact FrLe.nil) (by apply Yv;apply Yv;exact HpLe.nil)
  ·obtain rfl : k = z := by omega
   apply AWp.seq;apply Y1;refine Wm ?_;refine Wq Qz.cmpT ?_;apply Y0;refine Ct ?_;apply Ys;apply AWp.seq;apply AWp.block;apply Y1;refine Wm ?_;refine Wq Qz.ixP ?_;refine Wq Qz.ldX1 ?_;refine Wq Qz.cmpT ?_;refine Wm ?_;refine Wg Qz.move ?_;refine Wg Qz.ixP ?_;(refine AWs.qG rfl rfl rfl rfl rfl ?_;refine ⟨_,Qs.ldX1 (ao rfl) rfl (tab_of rfl) rfl (CellAt.p8 (by omega)),?_⟩);refine Wg Qz.lenN ?_;refine Wg Qz.cmpT ?_;refine Wq Qz.pickT ?_;apply Y0;refine Ct ?_;apply Y1;refine Wa ?_;apply Y0;apply AWp.ret;apply ABlock.ret;apply AThen.ret;apply ALoop.ret;apply ABlock.ret;apply AThen.ret
   exact Yf
def bigS (m : Nat→Int) (b:Nat→Nat→Int) (k:Nat):Nat→Int
 | 0=>0
 | i+1=>bigS m b k i+m i*b i k
theorem bigS_le {m : Nat→Int} {b:Nat→Nat→Int} {k:Nat} {d:Int} (hm:∀ i,i<8→0≤m i) (hb:∀ i,i<8→0≤b i k∧b i k≤d):∀ i,i≤8→0≤bigS m b k i∧bigS m b k i≤sumTo m i*d
 | 0,_=>by simp [bigS,sumTo]
 | i+1,h=>by
  obtain ⟨h1,h2⟩:=bigS_le hm hb i (by omega)
  obtain ⟨h3,h4⟩:=hb i (by omega)
  have h5:=hm i (by omega)
  have h6:0≤m i*b i k:=Int.mul_nonneg h5 h3
  have h7:m i*b i k≤m i*d:=Int.mul_le_mul_of_nonneg_left h4 h5
  have h8:sumTo m (i+1) = sumTo m i+m i:=rfl
  rw [h8,Int.add_mul]
  simp only [bigS]
  omega
theorem tooBigF_abs (m : Nat→Int) (b:Nat→Nat→Int) (hm:∀ i,i<8→0≤m i∧m i≤65535) (hb:∀ i,i<8→∀ k,k<8→0≤b i k∧b i k≤65535) (hp:∀ k,k<8→∀ i,i≤8→-1000000000000≤bigS m b k i∧bigS m b k i≤1000000000000) (h:∀ k,k<8→bigS m b k 8≤65535):Abs Tryz.prog 112 [agD (monC m),agD (row8 b)] (ex (.bool false)):=by
 refine Ab Tryz.func112 fun s0=>?_
 rw [Tryz.ntmps112]
 apply Y1;refine AWs.bx (ao rfl) rfl rfl rfl rfl ?_;refine AWs.bx (ao rfl) rfl rfl rfl rfl ?_;refine Wa ?_;apply Y0;apply AWp.seq;apply Y1;refine Wm ?_;apply Y0;apply AWp.block
 refine AWp.loop (fun mz σ=>∃ k,k≤8∧mz = 8 - k∧σ = ⟨[(2,.ptr 0 0),(3,.ptr 1 0),(9,.d (ex (.int .i64 (k:Nat))))],[.var 31 ((monC m).map .d),.var 120 ((row8 b).map .d)]⟩) ?le ⟨0,by omega,rfl,rfl⟩ ?round
 case le=>exact AS.le_of (by refine Yp ?_;refine Yp ?_;refine Yd ?_;exact FrLe.nil) (by apply Yv;apply Yv;exact HpLe.nil)
 case round =>
  rintro mz _ ⟨k,hk,rfl,rfl⟩
  by_cases hlt:k<8
  ·have h1:=h k hlt
   apply Y1;refine Wq Qz.cmpT ?_;apply Y0;apply AWp.seq;refine Ct ?_;apply Ys;apply AWp.seq;apply AWp.block;apply Y1;refine Wm ?_;refine Wa ?_;apply Y0;apply Y1;refine Wa ?_;apply Y0;apply AWp.seq;apply Y1;refine Wq Qz.ldD ?_;refine Wm ?_;apply Y0;apply AWp.block
   refine AWp.loop (fun mz σ=>∃ i,i≤8∧mz = 8 - i∧σ = ⟨[(2,.ptr 0 0),(3,.ptr 1 0),(9,.d (ex (.int .i64 (k:Nat)))),(5,.d (ex (.int .i64 (k:Nat)))),(6,.d (ex (.int .i64 (bigS m b k i)))),(12,.d (agD (monC m))),(13,.d (ex (.int .i64 (i:Nat))))],[.var 31 ((monC m).map .d),.var 120 ((row8 b).map .d)]⟩) ?lei ⟨0,by omega,rfl,rfl⟩ ?roundi
   case lei=>exact AS.le_of (by refine Yp ?_;refine Yp ?_;refine Yd ?_;refine Yd ?_;refine Yd ?_;refine Yd ?_;refine Yd ?_;exact FrLe.nil) (by apply Yv;apply Yv;exact HpLe.nil)
   case roundi =>
    rintro mz _ ⟨i,hi,rfl,rfl⟩
    by_cases hlti:i<8
    ·have h2:=hm i hlti
     have h3:=hb i hlti k hlt
     have h4:=hp k hlt i (by omega)
     have h5:=hp k hlt (i+1) (by omega)
     have h6:bigS m b k (i+1) = bigS m b k i+m i*b i k:=rfl
     have h7:0≤m i*b i k∧m i*b i k≤65535*65535:=⟨Int.mul_nonneg h2.1 h3.1,Int.mul_le_mul h2.2 h3.2 h3.1 (by omega)⟩
     apply Y1;refine Wq Qz.cmpT ?_;apply Y0;apply AWp.seq;refine Ct ?_;apply Ys;apply AWp.seq;apply AWp.block;apply Y1;refine Wm ?_;refine Wq Qz.atX1 ?_;refine Wa ?_;refine Wa ?_;apply Y0;apply AWp.region;refine Wm ?_;refine Wm ?_;refine Wm ?_;refine Wm ?_;refine Wq Qz.ixP ?_;refine Wq Qz.ixP ?_;(refine AWs.q rfl rfl ?_;refine ⟨_,Qs.ldX1 (ao rfl) rfl (tab_of rfl) rfl (CellAt.r8 (by omega) (by omega)),?_⟩);refine Wq Qz.mul ?_;refine Wq Qz.add ?_;refine Wa ?_;apply AWl.nil;apply ABlock.normal;apply Yn;apply AWp.region;refine Wq Qz.succ ?_;refine Wm ?_;apply AWl.nil
     refine ALoop.next (8 - (i+1)) (by omega) ⟨i+1,by omega,rfl,rfl⟩ ?_
     exact AS.le_of (by refine Yp ?_;refine Yp ?_;refine Yd ?_;refine Yd ?_;refine Yd ?_;refine Yd ?_;refine Yd ?_;exact FrLe.nil) (by apply Yv;apply Yv;exact HpLe.nil)
    ·obtain rfl : i = 8 := by omega
     apply Y1;refine Wq Qz.cmpF ?_;apply Y0;apply AWp.seq;refine Cf ?_;apply AWp.exit;apply AThen.exit;apply ALoop.exit;apply ABlock.hit;apply Yn;apply Y1;refine Wm ?_;refine Wq Qz.cmpF ?_;apply Y0;refine Cf ?_;apply AWp.skip;apply ABlock.normal;apply Yn;apply AWp.region;refine Wq Qz.succ ?_;refine Wm ?_;apply AWl.nil
     refine ALoop.next (8 - (k+1)) (by omega) ⟨k+1,by omega,rfl,rfl⟩ ?_
     exact AS.le_of (by refine Yp ?_;refine Yp ?_;refine Yd ?_;exact FrLe.nil) (by apply Yv;apply Yv;exact HpLe.nil)
  ·obtain rfl : k = 8 := by omega
   apply Y1;refine Wq Qz.cmpF ?_;apply Y0;apply AWp.seq;refine Cf ?_;apply AWp.exit;apply AThen.exit;apply ALoop.exit;apply ABlock.hit;apply Yn;apply Y1;refine Wa ?_;apply Y0;apply AWp.ret
   exact Yf
def pw (P : List Tm):Nat→List Tm
 | 0=>P
 | k+1=>pmul (pw P k) P
abbrev powL (P : List Tm) (n:Nat):List (List Tm):=(List.range n).map (pw P)
theorem powL_length (P : List Tm) (n:Nat):(powL P n).length = n:=by simp
theorem powL_get (P : List Tm) {n k:Nat} (h:k<n):(powL P n).getD k default = pw P k:=by
 simp [List.getD_eq_getElem?_getD,List.getElem?_range h]
abbrev rowP (l : List (List Tm)):List (List D):=l.map fun p=>[polD p]
theorem rowP_snoc (P : List Tm) (n:Nat):rowP (powL P n) ++ [[polD (pw P n)]] = rowP (powL P (n+1)):=by
 simp only [powL,rowP,List.range_succ,List.map_append,List.map_cons,List.map_nil]
abbrev tabHt (B : Nat→List Tm) (l:Nat→Nat) (z:List Ow):List Ow:=.var 144 [.own 2,.own 3,.own 4,.own 5,.own 6,.own 7,.own 8,.own 9] :: .var 77 ((pol8 B).map .d) :: .row 23 1 (rowP (powL (B 0) (l 0))) :: .row 23 1 (rowP (powL (B 1) (l 1))) :: .row 23 1 (rowP (powL (B 2) (l 2))) :: .row 23 1 (rowP (powL (B 3) (l 3))) :: .row 23 1 (rowP (powL (B 4) (l 4))) :: .row 23 1 (rowP (powL (B 5) (l 5))) :: .row 23 1 (rowP (powL (B 6) (l 6))) :: .row 23 1 (rowP (powL (B 7) (l 7))) :: z
abbrev tabH (B : Nat→List Tm) (l:Nat→Nat):List Ow:=tabHt B l []
theorem powers_con (B : Nat→List Tm):Con Tryz.prog 113 [.d (agD (pol8 B))] [] [] (fun r hp'=>r = .fn 149 [2,1]∧hp' = [.dead,.var 77 ((pol8 B).map .d),.var 144 [.own 3,.own 4,.own 5,.own 6,.own 7,.own 8,.own 9,.own 10],.row 23 1 [],.row 23 1 [],.row 23 1 [],.row 23 1 [],.row 23 1 [],.row 23 1 [],.row 23 1 [],.row 23 1 []]):=by
 refine Con.intro0 Tryz.func113 rfl (callFunc_run Tryz.func113 (by kernel_rfl) (by kernel_rfl)) rfl fun s0=>?_
 rw [Tryz.ntmps113]
 apply Y1;refine AWs.bx (ao rfl) rfl rfl rfl rfl ?_;refine Wa ?_;apply Y0;apply Y1;refine AWs.al (tab_of rfl) rfl rfl rfl rfl rfl rfl ?_;apply Y0;apply Y1
 refine AWl.weaken (AS.nilCell 2 0 23 1 rfl rfl (by decide) (by omega) rfl rfl rfl rfl) ?_
 refine AWl.weaken (AS.nilCell 2 1 23 1 rfl rfl (by decide) (by omega) rfl rfl rfl rfl) ?_
 refine AWl.weaken (AS.nilCell 2 2 23 1 rfl rfl (by decide) (by omega) rfl rfl rfl rfl) ?_
 refine AWl.weaken (AS.nilCell 2 3 23 1 rfl rfl (by decide) (by omega) rfl rfl rfl rfl) ?_
 refine AWl.weaken (AS.nilCell 2 4 23 1 rfl rfl (by decide) (by omega) rfl rfl rfl rfl) ?_
 refine AWl.weaken (AS.nilCell 2 5 23 1 rfl rfl (by decide) (by omega) rfl rfl rfl rfl) ?_
 refine AWl.weaken (AS.nilCell 2 6 23 1 rfl rfl (by decide) (by omega) rfl rfl rfl rfl) ?_
 refine AWl.weaken (AS.nilCell 2 7 23 1 rfl rfl (by decide) (by omega) rfl rfl rfl rfl) ?_
 (refine AWs.q rfl rfl ?_;refine ⟨_,Qs.mkFn [2,1] rfl,?_⟩);refine Wa ?_;apply Y0;apply AWp.ret
 refine FinC.ret (RetsA.one rfl) rfl ?_ rfl
 exact ⟨rfl,rfl⟩
theorem powers1_0 (B : Nat→List Tm) (l:Nat→Nat) (e E n N L M:Nat) (d0 d:Int) (hP:PB (B 0) n N d0) (hb:∀ k,k<E→PB (pw (B 0) k) L M d) (h0:0≤d0) (h0':0≤d) (hd:d+d0≤65535) (hn:L*n≤100000) (hN:M+N+1≤10000000) (he0:0<e) (he:e≤E) (hl:l 0≤E) (hE:E≤1000) :
  Con Tryz.prog 149 [.d (ex (.int .i64 ((0:Nat):Int))),.d (ex (.int .i64 (e:Nat))),.ptr 0 0,.ptr 1 0] (tabH B l) [2,3,4,5,6,7,8,9] (fun r hp'=>∃ n',n'≤E∧r = .d (polD (pw (B 0) (e - 1)))∧hp' = tabHt B (upF l 0 n') [.dead]):=by
 have hlen0:=powL_length (B 0) (l 0)
 refine Con.intro10 Tryz.func149 rfl (callFunc_run Tryz.func149 (by kernel_rfl) (by kernel_rfl)) rfl fun s0 pv0 pv1 pv2 pv3 pv4 pv5 pv6 pv7 pv8 pv9=>?_
 rw [Tryz.ntmps149]
 by_cases hz:l 0 = 0
 ·apply AWp.seq; apply AWp.region; refine Wa ?_; apply AWl.nil; apply Yn; apply AWp.seq; apply AWp.seq; apply AWp.region; refine Wm ?_; refine Wq Qz.ixP ?_; refine Wq Qz.loadP1 ?_; refine Wq Qz.lenN ?_; refine Wq Qz.cmpT ?_; apply AWl.nil; apply Yn; refine Ct ?_; apply AWp.region; refine Wm ?_; refine Wm ?_; refine Wq Qz.ixP ?_; (refine AWs.q rfl rfl ?_; refine ⟨_, Qs.ldX1 (ao rfl) rfl (tab_of rfl) rfl (CellAt.p8 (by omega)), ?_⟩); (refine AWs.seat1 2 (tab_of rfl) (tab_of rfl) rfl rfl (ao rfl) (by first | exact One.ex_ rfl | exact One.sl | exact One.ep) rfl rfl rfl rfl (by repeat (first | exact DownR.nil | apply DownR.var | apply DownR.row | apply DownR.obj | apply DownR.dead | (apply DownR.pin; rfl) | (apply DownR.varA; rfl))) rfl ?_); refine Wq Qz.ixP ?_; refine AWs.stA1 (ao rfl) (ao rfl) rfl (tab_of rfl) (by first | exact One.own rfl | exact One.sl) rfl rfl ?_; apply AWl.nil; apply Yn; apply AWp.seq; apply AWp.block
  have hx:∀ k,k<e - 1→Abs Tryz.prog 18 [polD ((powL (B 0) (1+k)).getD ((powL (B 0) (1+k)).length - 1) default),polD (B 0)] (tupD [polD (pw (B 0) (1+k)),ex (.int .i64 0)]):=fun k hk=>by
   rw [powL_length,powL_get (B 0) (by omega)]
   obtain ⟨j,hj⟩:∃ j,1+k = j+1:=⟨1+k - 1,by omega⟩
   rw [hj]
   exact PMul_pb (hb j (by omega)) hP h0' h0 hd hn hN
  refine AWp.loop (fun mz σ=>∃ k,k≤e - 1∧mz = e - 1 - k∧σ = ⟨[(0,.d (ex (.int .i64 ((0:Nat):Int)))),(1,.d (ex (.int .i64 (e:Nat)))),(2,.ptr 0 0),(3,.ptr 1 0)],[.var 144 [.own 2,.own 3,.own 4,.own 5,.own 6,.own 7,.own 8,.own 9],.var 77 ((pol8 B).map .d),.row 23 1 (rowP (powL (B 0) (1+k))),.row 23 1 (rowP (powL (B 1) (l 1))),.row 23 1 (rowP (powL (B 2) (l 2))),.row 23 1 (rowP (powL (B 3) (l 3))),.row 23 1 (rowP (powL (B 4) (l 4))),.row 23 1 (rowP (powL (B 5) (l 5))),.row 23 1 (rowP (powL (B 6) (l 6))),.row 23 1 (rowP (powL (B 7) (l 7))),.pin [(pv0,.own 0),(pv1,.own 1)]]⟩) ?le ⟨0,by omega,rfl,rfl⟩ ?round
  case le=>exact AS.le_of (by refine Yd ?_;refine Yd ?_;refine Yp ?_;refine Yp ?_;exact FrLe.nil) (by refine HpLe.cons (OwLe.varB rfl) ?_;apply Yv;apply Yr;apply Yr;apply Yr;apply Yr;apply Yr;apply Yr;apply Yr;apply Yr;refine HpLe.cons (OwLe.pinB rfl) ?_;exact HpLe.nil)
  case round =>
   rintro mz _ ⟨k,hk,rfl,rfl⟩
   by_cases hlt:k<e - 1
   ·have hlen:=powL_length (B 0) (1+k)
    have hsn:=rowP_snoc (B 0) (1+k)
    apply AWp.seq;apply Y1;refine Wm ?_;refine Wq Qz.ixP ?_;refine Wq Qz.loadP1 ?_;refine Wq Qz.lenN ?_;refine Wm ?_;refine Wq Qz.cmpT ?_;apply Y0;refine Ct ?_;apply Ys;apply AWp.block;apply AWp.seq
    refine AWp.dr' (DrawOk.float (e:=16) (by kernel_rfl) (K4 (K4 (K4 (K4 (AddE.keep (AddE.add (AddE.keep AddE.nil))))))) (by kernel_rfl)) [[],[(27,0)],[(28,1)],[],[(30,3)],[(31,4)],[(32,5)],[(33,6)],[(29,2),(34,7)],[(35,8)],[],[(37,10)],[(38,11)],[(36,9),(39,12)],[(40,13)],[(26,14)],[(26,14)]] [[],[0],[0,1],[],[3],[3,4],[3,4,5],[3,4,5,6],[0,1,2,3,4,5,6,7],[0,1,2,3,4,5,6,7,8],[],[10],[10,11],[0,1,2,3,4,5,6,7,8,9,10,11,12],[0,1,2,3,4,5,6,7,8,9,10,11,12,13],[0,1,2,3,4,5,6,7,8,9,10,11,12,13,14],[0,1,2,3,4,5,6,7,8,9,10,11,12,13,14]] rfl (by kernel_rfl) (by kernel_rfl) (by kernel_rfl) ?_
    refine Xq Qz.move ?_;refine Xq Qz.ixP ?_;refine Xq Qz.loadP1 ?_;refine Xq Qz.move ?_;refine Xq Qz.ixP ?_;refine Xq Qz.loadP1 ?_;refine Xq Qz.lenN ?_;refine Xq Qz.pred ?_;refine Xq Qz.indexN ?_;refine Xq Qz.ldE1 ?_;refine Xq Qz.move ?_;refine Xq Qz.ixP ?_;(refine ⟨_,HStep.q rfl (Qs.ldX1 (ah rfl) rfl (tab_of rfl) rfl (CellAt.p8 (by omega))),?_⟩;refine ⟨_,rfl,?_⟩);refine Xq (Qz.call (hx k hlt)) ?_;refine Xq Qz.move ?_;refine Xq Qz.ext ?_;refine Xq Qz.ext ?_;refine ⟨_,rfl,?_⟩
    refine Wa ?_;refine Wa ?_;apply AWl.nil;apply OnlyN.mk';apply Yn;apply AWp.region;refine Wm ?_;refine Wm ?_;refine Wq Qz.ixP ?_;refine Wq Qz.loadP1 ?_;refine Wm ?_;(refine AWs.q rfl rfl ?_;(refine Bq.slice (tab_of rfl) (tab_of rfl) rfl rfl rfl rfl rfl ?_;(repeat ((first | refine ⟨_,PartOk.ag (ao rfl),?_⟩ | refine ⟨_,PartOk.one rfl (by first | exact One.ex_ rfl | exact One.sl | exact One.ep),?_⟩);refine ⟨_,rfl,?_⟩));refine ⟨_,rfl,?_⟩));(refine AWs.appA (ao rfl) rfl rfl (tab_of rfl) (tab_of rfl) rfl rfl (by simp [chunks_length];omega) (by simp [chunks_length];omega) rfl (by repeat (first | exact DownR.nil | apply DownR.var | apply DownR.row | apply DownR.obj | apply DownR.dead | (apply DownR.pin;rfl) | (apply DownR.varA;rfl))) rfl ?_);refine Wq Qz.ixP ?_;refine AWs.stA1 (ao rfl) (ao rfl) rfl (tab_of rfl) (by first | exact One.own rfl | exact One.sl) rfl rfl ?_;apply AWl.nil;apply ABlock.normal
    refine ALoop.next (e - 1 - (k+1)) (by omega) ⟨k+1,by omega,rfl,rfl⟩ ?_
    exact AS.le_of (by refine Yd ?_;refine Yd ?_;refine Yp ?_;refine Yp ?_;exact FrLe.nil) (by refine HpLe.cons (OwLe.varB rfl) ?_;apply Yv;refine HpLe.cons (OwLe.row hsn) ?_;apply Yr;apply Yr;apply Yr;apply Yr;apply Yr;apply Yr;apply Yr;refine HpLe.cons (OwLe.pinB rfl) ?_;exact HpLe.nil)
   ·obtain rfl : k = e - 1 := by omega
    have hlen:=powL_length (B 0) (1+(e - 1))
    apply AWp.seq;apply Y1;refine Wm ?_;refine Wq Qz.ixP ?_;refine Wq Qz.loadP1 ?_;refine Wq Qz.lenN ?_;refine Wm ?_;refine Wq Qz.cmpF ?_;apply Y0;refine Cf ?_;apply AWp.exit;apply AThen.exit;apply ALoop.exit;apply ABlock.hit;apply Yn;apply Y1;refine Wm ?_;refine Wq Qz.ixP ?_;refine Wq Qz.loadP1 ?_;refine Wm ?_;refine Wq Qz.pred ?_;refine Wq Qz.indexN ?_;refine Wq Qz.ldE1 ?_;refine Wa ?_;apply Y0;apply AWp.ret
    refine FinC.ret (RetsA.d (Rets.of1 (ResV.tmp rfl rfl) (D.le.of_eq (congrArg polD (powL_get (B 0) (by omega)))))) rfl ?_ rfl
    exact ⟨1+(e - 1),by omega,rfl,rfl⟩
 ·apply Y1;refine Wa ?_;apply Y0;apply AWp.seq;apply Y1;refine Wm ?_;refine Wq Qz.ixP ?_;refine Wq Qz.loadP1 ?_;refine Wq Qz.lenN ?_;refine Wq Qz.cmpF ?_;apply Y0;refine Cf ?_;apply Ys;apply AWp.seq;apply AWp.block
  have hx:∀ k,k<e - l 0→Abs Tryz.prog 18 [polD ((powL (B 0) (l 0+k)).getD ((powL (B 0) (l 0+k)).length - 1) default),polD (B 0)] (tupD [polD (pw (B 0) (l 0+k)),ex (.int .i64 0)]):=fun k hk=>by
   rw [powL_length,powL_get (B 0) (by omega)]
   obtain ⟨j,hj⟩:∃ j,l 0+k = j+1:=⟨l 0+k - 1,by omega⟩
   rw [hj]
   exact PMul_pb (hb j (by omega)) hP h0' h0 hd hn hN
  refine AWp.loop (fun mz σ=>∃ k,k≤e - l 0∧mz = e - l 0 - k∧σ = ⟨[(0,.d (ex (.int .i64 ((0:Nat):Int)))),(1,.d (ex (.int .i64 (e:Nat)))),(2,.ptr 0 0),(3,.ptr 1 0)],[.var 144 [.own 2,.own 3,.own 4,.own 5,.own 6,.own 7,.own 8,.own 9],.var 77 ((pol8 B).map .d),.row 23 1 (rowP (powL (B 0) (l 0+k))),.row 23 1 (rowP (powL (B 1) (l 1))),.row 23 1 (rowP (powL (B 2) (l 2))),.row 23 1 (rowP (powL (B 3) (l 3))),.row 23 1 (rowP (powL (B 4) (l 4))),.row 23 1 (rowP (powL (B 5) (l 5))),.row 23 1 (rowP (powL (B 6) (l 6))),.row 23 1 (rowP (powL (B 7) (l 7))),.pin [(pv0,.own 0),(pv1,.own 1)]]⟩) ?le ⟨0,by omega,rfl,rfl⟩ ?round
  case le=>exact AS.le_of (by refine Yd ?_;refine Yd ?_;refine Yp ?_;refine Yp ?_;exact FrLe.nil) (by refine HpLe.cons (OwLe.varB rfl) ?_;apply Yv;apply Yr;apply Yr;apply Yr;apply Yr;apply Yr;apply Yr;apply Yr;apply Yr;refine HpLe.cons (OwLe.pinB rfl) ?_;exact HpLe.nil)
  case round =>
   rintro mz _ ⟨k,hk,rfl,rfl⟩
   by_cases hlt:k<e - l 0
   ·have hlen:=powL_length (B 0) (l 0+k)
    have hsn:=rowP_snoc (B 0) (l 0+k)
    apply AWp.seq;apply Y1;refine Wm ?_;refine Wq Qz.ixP ?_;refine Wq Qz.loadP1 ?_;refine Wq Qz.lenN ?_;refine Wm ?_;refine Wq Qz.cmpT ?_;apply Y0;refine Ct ?_;apply Ys;apply AWp.block;apply AWp.seq
    refine AWp.dr' (DrawOk.float (e:=16) (by kernel_rfl) (K4 (K4 (K4 (K4 (AddE.keep (AddE.add (AddE.keep AddE.nil))))))) (by kernel_rfl)) [[],[(27,0)],[(28,1)],[],[(30,3)],[(31,4)],[(32,5)],[(33,6)],[(29,2),(34,7)],[(35,8)],[],[(37,10)],[(38,11)],[(36,9),(39,12)],[(40,13)],[(26,14)],[(26,14)]] [[],[0],[0,1],[],[3],[3,4],[3,4,5],[3,4,5,6],[0,1,2,3,4,5,6,7],[0,1,2,3,4,5,6,7,8],[],[10],[10,11],[0,1,2,3,4,5,6,7,8,9,10,11,12],[0,1,2,3,4,5,6,7,8,9,10,11,12,13],[0,1,2,3,4,5,6,7,8,9,10,11,12,13,14],[0,1,2,3,4,5,6,7,8,9,10,11,12,13,14]] rfl (by kernel_rfl) (by kernel_rfl) (by kernel_rfl) ?_
    refine Xq Qz.move ?_;refine Xq Qz.ixP ?_;refine Xq Qz.loadP1 ?_;refine Xq Qz.move ?_;refine Xq Qz.ixP ?_;refine Xq Qz.loadP1 ?_;refine Xq Qz.lenN ?_;refine Xq Qz.pred ?_;refine Xq Qz.indexN ?_;refine Xq Qz.ldE1 ?_;refine Xq Qz.move ?_;refine Xq Qz.ixP ?_;(refine ⟨_,HStep.q rfl (Qs.ldX1 (ah rfl) rfl (tab_of rfl) rfl (CellAt.p8 (by omega))),?_⟩;refine ⟨_,rfl,?_⟩);refine Xq (Qz.call (hx k hlt)) ?_;refine Xq Qz.move ?_;refine Xq Qz.ext ?_;refine Xq Qz.ext ?_;refine ⟨_,rfl,?_⟩
    refine Wa ?_;refine Wa ?_;apply AWl.nil;apply OnlyN.mk';apply Yn;apply AWp.region;refine Wm ?_;refine Wm ?_;refine Wq Qz.ixP ?_;refine Wq Qz.loadP1 ?_;refine Wm ?_;(refine AWs.q rfl rfl ?_;(refine Bq.slice (tab_of rfl) (tab_of rfl) rfl rfl rfl rfl rfl ?_;(repeat ((first | refine ⟨_,PartOk.ag (ao rfl),?_⟩ | refine ⟨_,PartOk.one rfl (by first | exact One.ex_ rfl | exact One.sl | exact One.ep),?_⟩);refine ⟨_,rfl,?_⟩));refine ⟨_,rfl,?_⟩));(refine AWs.appA (ao rfl) rfl rfl (tab_of rfl) (tab_of rfl) rfl rfl (by simp [chunks_length];omega) (by simp [chunks_length];omega) rfl (by repeat (first | exact DownR.nil | apply DownR.var | apply DownR.row | apply DownR.obj | apply DownR.dead | (apply DownR.pin;rfl) | (apply DownR.varA;rfl))) rfl ?_);refine Wq Qz.ixP ?_;refine AWs.stA1 (ao rfl) (ao rfl) rfl (tab_of rfl) (by first | exact One.own rfl | exact One.sl) rfl rfl ?_;apply AWl.nil;apply ABlock.normal
    refine ALoop.next (e - l 0 - (k+1)) (by omega) ⟨k+1,by omega,rfl,rfl⟩ ?_
    exact AS.le_of (by refine Yd ?_;refine Yd ?_;refine Yp ?_;refine Yp ?_;exact FrLe.nil) (by refine HpLe.cons (OwLe.varB rfl) ?_;apply Yv;refine HpLe.cons (OwLe.row hsn) ?_;apply Yr;apply Yr;apply Yr;apply Yr;apply Yr;apply Yr;apply Yr;refine HpLe.cons (OwLe.pinB rfl) ?_;exact HpLe.nil)
   ·obtain rfl : k = e - l 0 := by omega
    have hlen:=powL_length (B 0) (l 0+(e - l 0))
    apply AWp.seq;apply Y1;refine Wm ?_;refine Wq Qz.ixP ?_;refine Wq Qz.loadP1 ?_;refine Wq Qz.lenN ?_;refine Wm ?_;refine Wq Qz.cmpF ?_;apply Y0;refine Cf ?_;apply AWp.exit;apply AThen.exit;apply ALoop.exit;apply ABlock.hit;apply Yn;apply Y1;refine Wm ?_;refine Wq Qz.ixP ?_;refine Wq Qz.loadP1 ?_;refine Wm ?_;refine Wq Qz.pred ?_;refine Wq Qz.indexN ?_;refine Wq Qz.ldE1 ?_;refine Wa ?_;apply Y0;apply AWp.ret
    refine FinC.ret (RetsA.d (Rets.of1 (ResV.tmp rfl rfl) (D.le.of_eq (congrArg polD (powL_get (B 0) (by omega)))))) rfl ?_ rfl
    exact ⟨l 0+(e - l 0),by omega,rfl,rfl⟩
theorem powers1_1 (B : Nat→List Tm) (l:Nat→Nat) (e E n N L M:Nat) (d0 d:Int) (hP:PB (B 1) n N d0) (hb:∀ k,k<E→PB (pw (B 1) k) L M d) (h0:0≤d0) (h0':0≤d) (hd:d+d0≤65535) (hn:L*n≤100000) (hN:M+N+1≤10000000) (he0:0<e) (he:e≤E) (hl:l 1≤E) (hE:E≤1000) :
  Con Tryz.prog 149 [.d (ex (.int .i64 ((1:Nat):Int))),.d (ex (.int .i64 (e:Nat))),.ptr 0 0,.ptr 1 0] (tabH B l) [2,3,4,5,6,7,8,9] (fun r hp'=>∃ n',n'≤E∧r = .d (polD (pw (B 1) (e - 1)))∧hp' = tabHt B (upF l 1 n') [.dead]):=by
 have hlen0:=powL_length (B 1) (l 1)
 refine Con.intro10 Tryz.func149 rfl (callFunc_run Tryz.func149 (by kernel_rfl) (by kernel_rfl)) rfl fun s0 pv0 pv1 pv2 pv3 pv4 pv5 pv6 pv7 pv8 pv9=>?_
 rw [Tryz.ntmps149]
 by_cases hz:l 1 = 0
 ·apply AWp.seq; apply AWp.region; refine Wa ?_; apply AWl.nil; apply Yn; apply AWp.seq; apply AWp.seq; apply AWp.region; refine Wm ?_; refine Wq Qz.ixP ?_; refine Wq Qz.loadP1 ?_; refine Wq Qz.lenN ?_; refine Wq Qz.cmpT ?_; apply AWl.nil; apply Yn; refine Ct ?_; apply AWp.region; refine Wm ?_; refine Wm ?_; refine Wq Qz.ixP ?_; (refine AWs.q rfl rfl ?_; refine ⟨_, Qs.ldX1 (ao rfl) rfl (tab_of rfl) rfl (CellAt.p8 (by omega)), ?_⟩); (refine AWs.seat1 3 (tab_of rfl) (tab_of rfl) rfl rfl (ao rfl) (by first | exact One.ex_ rfl | exact One.sl | exact One.ep) rfl rfl rfl rfl (by repeat (first | exact DownR.nil | apply DownR.var | apply DownR.row | apply DownR.obj | apply DownR.dead | (apply DownR.pin; rfl) | (apply DownR.varA; rfl))) rfl ?_); refine Wq Qz.ixP ?_; refine AWs.stA1 (ao rfl) (ao rfl) rfl (tab_of rfl) (by first | exact One.own rfl | exact One.sl) rfl rfl ?_; apply AWl.nil; apply Yn; apply AWp.seq; apply AWp.block
  have hx:∀ k,k<e - 1→Abs Tryz.prog 18 [polD ((powL (B 1) (1+k)).getD ((powL (B 1) (1+k)).length - 1) default),polD (B 1)] (tupD [polD (pw (B 1) (1+k)),ex (.int .i64 0)]):=fun k hk=>by
   rw [powL_length,powL_get (B 1) (by omega)]
   obtain ⟨j,hj⟩:∃ j,1+k = j+1:=⟨1+k - 1,by omega⟩
   rw [hj]
   exact PMul_pb (hb j (by omega)) hP h0' h0 hd hn hN
  refine AWp.loop (fun mz σ=>∃ k,k≤e - 1∧mz = e - 1 - k∧σ = ⟨[(0,.d (ex (.int .i64 ((1:Nat):Int)))),(1,.d (ex (.int .i64 (e:Nat)))),(2,.ptr 0 0),(3,.ptr 1 0)],[.var 144 [.own 2,.own 3,.own 4,.own 5,.own 6,.own 7,.own 8,.own 9],.var 77 ((pol8 B).map .d),.row 23 1 (rowP (powL (B 0) (l 0))),.row 23 1 (rowP (powL (B 1) (1+k))),.row 23 1 (rowP (powL (B 2) (l 2))),.row 23 1 (rowP (powL (B 3) (l 3))),.row 23 1 (rowP (powL (B 4) (l 4))),.row 23 1 (rowP (powL (B 5) (l 5))),.row 23 1 (rowP (powL (B 6) (l 6))),.row 23 1 (rowP (powL (B 7) (l 7))),.pin [(pv0,.own 0),(pv1,.own 1)]]⟩) ?le ⟨0,by omega,rfl,rfl⟩ ?round
  case le=>exact AS.le_of (by refine Yd ?_;refine Yd ?_;refine Yp ?_;refine Yp ?_;exact FrLe.nil) (by refine HpLe.cons (OwLe.varB rfl) ?_;apply Yv;apply Yr;apply Yr;apply Yr;apply Yr;apply Yr;apply Yr;apply Yr;apply Yr;refine HpLe.cons (OwLe.pinB rfl) ?_;exact HpLe.nil)
  case round =>
   rintro mz _ ⟨k,hk,rfl,rfl⟩
   by_cases hlt:k<e - 1
   ·have hlen:=powL_length (B 1) (1+k)
    have hsn:=rowP_snoc (B 1) (1+k)
    apply AWp.seq;apply Y1;refine Wm ?_;refine Wq Qz.ixP ?_;refine Wq Qz.loadP1 ?_;refine Wq Qz.lenN ?_;refine Wm ?_;refine Wq Qz.cmpT ?_;apply Y0;refine Ct ?_;apply Ys;apply AWp.block;apply AWp.seq
    refine AWp.dr' (DrawOk.float (e:=16) (by kernel_rfl) (K4 (K4 (K4 (K4 (AddE.keep (AddE.add (AddE.keep AddE.nil))))))) (by kernel_rfl)) [[],[(27,0)],[(28,1)],[],[(30,3)],[(31,4)],[(32,5)],[(33,6)],[(29,2),(34,7)],[(35,8)],[],[(37,10)],[(38,11)],[(36,9),(39,12)],[(40,13)],[(26,14)],[(26,14)]] [[],[0],[0,1],[],[3],[3,4],[3,4,5],[3,4,5,6],[0,1,2,3,4,5,6,7],[0,1,2,3,4,5,6,7,8],[],[10],[10,11],[0,1,2,3,4,5,6,7,8,9,10,11,12],[0,1,2,3,4,5,6,7,8,9,10,11,12,13],[0,1,2,3,4,5,6,7,8,9,10,11,12,13,14],[0,1,2,3,4,5,6,7,8,9,10,11,12,13,14]] rfl (by kernel_rfl) (by kernel_rfl) (by kernel_rfl) ?_
    refine Xq Qz.move ?_;refine Xq Qz.ixP ?_;refine Xq Qz.loadP1 ?_;refine Xq Qz.move ?_;refine Xq Qz.ixP ?_;refine Xq Qz.loadP1 ?_;refine Xq Qz.lenN ?_;refine Xq Qz.pred ?_;refine Xq Qz.indexN ?_;refine Xq Qz.ldE1 ?_;refine Xq Qz.move ?_;refine Xq Qz.ixP ?_;(refine ⟨_,HStep.q rfl (Qs.ldX1 (ah rfl) rfl (tab_of rfl) rfl (CellAt.p8 (by omega))),?_⟩;refine ⟨_,rfl,?_⟩);refine Xq (Qz.call (hx k hlt)) ?_;refine Xq Qz.move ?_;refine Xq Qz.ext ?_;refine Xq Qz.ext ?_;refine ⟨_,rfl,?_⟩
    refine Wa ?_;refine Wa ?_;apply AWl.nil;apply OnlyN.mk';apply Yn;apply AWp.region;refine Wm ?_;refine Wm ?_;refine Wq Qz.ixP ?_;refine Wq Qz.loadP1 ?_;refine Wm ?_;(refine AWs.q rfl rfl ?_;(refine Bq.slice (tab_of rfl) (tab_of rfl) rfl rfl rfl rfl rfl ?_;(repeat ((first | refine ⟨_,PartOk.ag (ao rfl),?_⟩ | refine ⟨_,PartOk.one rfl (by first | exact One.ex_ rfl | exact One.sl | exact One.ep),?_⟩);refine ⟨_,rfl,?_⟩));refine ⟨_,rfl,?_⟩));(refine AWs.appA (ao rfl) rfl rfl (tab_of rfl) (tab_of rfl) rfl rfl (by simp [chunks_length];omega) (by simp [chunks_length];omega) rfl (by repeat (first | exact DownR.nil | apply DownR.var | apply DownR.row | apply DownR.obj | apply DownR.dead | (apply DownR.pin;rfl) | (apply DownR.varA;rfl))) rfl ?_);refine Wq Qz.ixP ?_;refine AWs.stA1 (ao rfl) (ao rfl) rfl (tab_of rfl) (by first | exact One.own rfl | exact One.sl) rfl rfl ?_;apply AWl.nil;apply ABlock.normal
    refine ALoop.next (e - 1 - (k+1)) (by omega) ⟨k+1,by omega,rfl,rfl⟩ ?_
    exact AS.le_of (by refine Yd ?_;refine Yd ?_;refine Yp ?_;refine Yp ?_;exact FrLe.nil) (by refine HpLe.cons (OwLe.varB rfl) ?_;apply Yv;apply Yr;refine HpLe.cons (OwLe.row hsn) ?_;apply Yr;apply Yr;apply Yr;apply Yr;apply Yr;apply Yr;refine HpLe.cons (OwLe.pinB rfl) ?_;exact HpLe.nil)
   ·obtain rfl : k = e - 1 := by omega
    have hlen:=powL_length (B 1) (1+(e - 1))
    apply AWp.seq;apply Y1;refine Wm ?_;refine Wq Qz.ixP ?_;refine Wq Qz.loadP1 ?_;refine Wq Qz.lenN ?_;refine Wm ?_;refine Wq Qz.cmpF ?_;apply Y0;refine Cf ?_;apply AWp.exit;apply AThen.exit;apply ALoop.exit;apply ABlock.hit;apply Yn;apply Y1;refine Wm ?_;refine Wq Qz.ixP ?_;refine Wq Qz.loadP1 ?_;refine Wm ?_;refine Wq Qz.pred ?_;refine Wq Qz.indexN ?_;refine Wq Qz.ldE1 ?_;refine Wa ?_;apply Y0;apply AWp.ret
    refine FinC.ret (RetsA.d (Rets.of1 (ResV.tmp rfl rfl) (D.le.of_eq (congrArg polD (powL_get (B 1) (by omega)))))) rfl ?_ rfl
    exact ⟨1+(e - 1),by omega,rfl,rfl⟩
 ·apply Y1;refine Wa ?_;apply Y0;apply AWp.seq;apply Y1;refine Wm ?_;refine Wq Qz.ixP ?_;refine Wq Qz.loadP1 ?_;refine Wq Qz.lenN ?_;refine Wq Qz.cmpF ?_;apply Y0;refine Cf ?_;apply Ys;apply AWp.seq;apply AWp.block
  have hx:∀ k,k<e - l 1→Abs Tryz.prog 18 [polD ((powL (B 1) (l 1+k)).getD ((powL (B 1) (l 1+k)).length - 1) default),polD (B 1)] (tupD [polD (pw (B 1) (l 1+k)),ex (.int .i64 0)]):=fun k hk=>by
   rw [powL_length,powL_get (B 1) (by omega)]
   obtain ⟨j,hj⟩:∃ j,l 1+k = j+1:=⟨l 1+k - 1,by omega⟩
   rw [hj]
   exact PMul_pb (hb j (by omega)) hP h0' h0 hd hn hN
  refine AWp.loop (fun mz σ=>∃ k,k≤e - l 1∧mz = e - l 1 - k∧σ = ⟨[(0,.d (ex (.int .i64 ((1:Nat):Int)))),(1,.d (ex (.int .i64 (e:Nat)))),(2,.ptr 0 0),(3,.ptr 1 0)],[.var 144 [.own 2,.own 3,.own 4,.own 5,.own 6,.own 7,.own 8,.own 9],.var 77 ((pol8 B).map .d),.row 23 1 (rowP (powL (B 0) (l 0))),.row 23 1 (rowP (powL (B 1) (l 1+k))),.row 23 1 (rowP (powL (B 2) (l 2))),.row 23 1 (rowP (powL (B 3) (l 3))),.row 23 1 (rowP (powL (B 4) (l 4))),.row 23 1 (rowP (powL (B 5) (l 5))),.row 23 1 (rowP (powL (B 6) (l 6))),.row 23 1 (rowP (powL (B 7) (l 7))),.pin [(pv0,.own 0),(pv1,.own 1)]]⟩) ?le ⟨0,by omega,rfl,rfl⟩ ?round
  case le=>exact AS.le_of (by refine Yd ?_;refine Yd ?_;refine Yp ?_;refine Yp ?_;exact FrLe.nil) (by refine HpLe.cons (OwLe.varB rfl) ?_;apply Yv;apply Yr;apply Yr;apply Yr;apply Yr;apply Yr;apply Yr;apply Yr;apply Yr;refine HpLe.cons (OwLe.pinB rfl) ?_;exact HpLe.nil)
  case round =>
   rintro mz _ ⟨k,hk,rfl,rfl⟩
   by_cases hlt:k<e - l 1
   ·have hlen:=powL_length (B 1) (l 1+k)
    have hsn:=rowP_snoc (B 1) (l 1+k)
    apply AWp.seq;apply Y1;refine Wm ?_;refine Wq Qz.ixP ?_;refine Wq Qz.loadP1 ?_;refine Wq Qz.lenN ?_;refine Wm ?_;refine Wq Qz.cmpT ?_;apply Y0;refine Ct ?_;apply Ys;apply AWp.block;apply AWp.seq
    refine AWp.dr' (DrawOk.float (e:=16) (by kernel_rfl) (K4 (K4 (K4 (K4 (AddE.keep (AddE.add (AddE.keep AddE.nil))))))) (by kernel_rfl)) [[],[(27,0)],[(28,1)],[],[(30,3)],[(31,4)],[(32,5)],[(33,6)],[(29,2),(34,7)],[(35,8)],[],[(37,10)],[(38,11)],[(36,9),(39,12)],[(40,13)],[(26,14)],[(26,14)]] [[],[0],[0,1],[],[3],[3,4],[3,4,5],[3,4,5,6],[0,1,2,3,4,5,6,7],[0,1,2,3,4,5,6,7,8],[],[10],[10,11],[0,1,2,3,4,5,6,7,8,9,10,11,12],[0,1,2,3,4,5,6,7,8,9,10,11,12,13],[0,1,2,3,4,5,6,7,8,9,10,11,12,13,14],[0,1,2,3,4,5,6,7,8,9,10,11,12,13,14]] rfl (by kernel_rfl) (by kernel_rfl) (by kernel_rfl) ?_
    refine Xq Qz.move ?_;refine Xq Qz.ixP ?_;refine Xq Qz.loadP1 ?_;refine Xq Qz.move ?_;refine Xq Qz.ixP ?_;refine Xq Qz.loadP1 ?_;refine Xq Qz.lenN ?_;refine Xq Qz.pred ?_;refine Xq Qz.indexN ?_;refine Xq Qz.ldE1 ?_;refine Xq Qz.move ?_;refine Xq Qz.ixP ?_;(refine ⟨_,HStep.q rfl (Qs.ldX1 (ah rfl) rfl (tab_of rfl) rfl (CellAt.p8 (by omega))),?_⟩;refine ⟨_,rfl,?_⟩);refine Xq (Qz.call (hx k hlt)) ?_;refine Xq Qz.move ?_;refine Xq Qz.ext ?_;refine Xq Qz.ext ?_;refine ⟨_,rfl,?_⟩
    refine Wa ?_;refine Wa ?_;apply AWl.nil;apply OnlyN.mk';apply Yn;apply AWp.region;refine Wm ?_;refine Wm ?_;refine Wq Qz.ixP ?_;refine Wq Qz.loadP1 ?_;refine Wm ?_;(refine AWs.q rfl rfl ?_;(refine Bq.slice (tab_of rfl) (tab_of rfl) rfl rfl rfl rfl rfl ?_;(repeat ((first | refine ⟨_,PartOk.ag (ao rfl),?_⟩ | refine ⟨_,PartOk.one rfl (by first | exact One.ex_ rfl | exact One.sl | exact One.ep),?_⟩);refine ⟨_,rfl,?_⟩));refine ⟨_,rfl,?_⟩));(refine AWs.appA (ao rfl) rfl rfl (tab_of rfl) (tab_of rfl) rfl rfl (by simp [chunks_length];omega) (by simp [chunks_length];omega) rfl (by repeat (first | exact DownR.nil | apply DownR.var | apply DownR.row | apply DownR.obj | apply DownR.dead | (apply DownR.pin;rfl) | (apply DownR.varA;rfl))) rfl ?_);refine Wq Qz.ixP ?_;refine AWs.stA1 (ao rfl) (ao rfl) rfl (tab_of rfl) (by first | exact One.own rfl | exact One.sl) rfl rfl ?_;apply AWl.nil;apply ABlock.normal
    refine ALoop.next (e - l 1 - (k+1)) (by omega) ⟨k+1,by omega,rfl,rfl⟩ ?_
    exact AS.le_of (by refine Yd ?_;refine Yd ?_;refine Yp ?_;refine Yp ?_;exact FrLe.nil) (by refine HpLe.cons (OwLe.varB rfl) ?_;apply Yv;apply Yr;refine HpLe.cons (OwLe.row hsn) ?_;apply Yr;apply Yr;apply Yr;apply Yr;apply Yr;apply Yr;refine HpLe.cons (OwLe.pinB rfl) ?_;exact HpLe.nil)
   ·obtain rfl : k = e - l 1 := by omega
    have hlen:=powL_length (B 1) (l 1+(e - l 1))
    apply AWp.seq;apply Y1;refine Wm ?_;refine Wq Qz.ixP ?_;refine Wq Qz.loadP1 ?_;refine Wq Qz.lenN ?_;refine Wm ?_;refine Wq Qz.cmpF ?_;apply Y0;refine Cf ?_;apply AWp.exit;apply AThen.exit;apply ALoop.exit;apply ABlock.hit;apply Yn;apply Y1;refine Wm ?_;refine Wq Qz.ixP ?_;refine Wq Qz.loadP1 ?_;refine Wm ?_;refine Wq Qz.pred ?_;refine Wq Qz.indexN ?_;refine Wq Qz.ldE1 ?_;refine Wa ?_;apply Y0;apply AWp.ret
    refine FinC.ret (RetsA.d (Rets.of1 (ResV.tmp rfl rfl) (D.le.of_eq (congrArg polD (powL_get (B 1) (by omega)))))) rfl ?_ rfl
    exact ⟨l 1+(e - l 1),by omega,rfl,rfl⟩
theorem powers1_2 (B : Nat→List Tm) (l:Nat→Nat) (e E n N L M:Nat) (d0 d:Int) (hP:PB (B 2) n N d0) (hb:∀ k,k<E→PB (pw (B 2) k) L M d) (h0:0≤d0) (h0':0≤d) (hd:d+d0≤65535) (hn:L*n≤100000) (hN:M+N+1≤10000000) (he0:0<e) (he:e≤E) (hl:l 2≤E) (hE:E≤1000) :
  Con Tryz.prog 149 [.d (ex (.int .i64 ((2:Nat):Int))),.d (ex (.int .i64 (e:Nat))),.ptr 0 0,.ptr 1 0] (tabH B l) [2,3,4,5,6,7,8,9] (fun r hp'=>∃ n',n'≤E∧r = .d (polD (pw (B 2) (e - 1)))∧hp' = tabHt B (upF l 2 n') [.dead]):=by
 have hlen0:=powL_length (B 2) (l 2)
 refine Con.intro10 Tryz.func149 rfl (callFunc_run Tryz.func149 (by kernel_rfl) (by kernel_rfl)) rfl fun s0 pv0 pv1 pv2 pv3 pv4 pv5 pv6 pv7 pv8 pv9=>?_
 rw [Tryz.ntmps149]
 by_cases hz:l 2 = 0
 ·apply AWp.seq; apply AWp.region; refine Wa ?_; apply AWl.nil; apply Yn; apply AWp.seq; apply AWp.seq; apply AWp.region; refine Wm ?_; refine Wq Qz.ixP ?_; refine Wq Qz.loadP1 ?_; refine Wq Qz.lenN ?_; refine Wq Qz.cmpT ?_; apply AWl.nil; apply Yn; refine Ct ?_; apply AWp.region; refine Wm ?_; refine Wm ?_; refine Wq Qz.ixP ?_; (refine AWs.q rfl rfl ?_; refine ⟨_, Qs.ldX1 (ao rfl) rfl (tab_of rfl) rfl (CellAt.p8 (by omega)), ?_⟩); (refine AWs.seat1 4 (tab_of rfl) (tab_of rfl) rfl rfl (ao rfl) (by first | exact One.ex_ rfl | exact One.sl | exact One.ep) rfl rfl rfl rfl (by repeat (first | exact DownR.nil | apply DownR.var | apply DownR.row | apply DownR.obj | apply DownR.dead | (apply DownR.pin; rfl) | (apply DownR.varA; rfl))) rfl ?_); refine Wq Qz.ixP ?_; refine AWs.stA1 (ao rfl) (ao rfl) rfl (tab_of rfl) (by first | exact One.own rfl | exact One.sl) rfl rfl ?_; apply AWl.nil; apply Yn; apply AWp.seq; apply AWp.block
  have hx:∀ k,k<e - 1→Abs Tryz.prog 18 [polD ((powL (B 2) (1+k)).getD ((powL (B 2) (1+k)).length - 1) default),polD (B 2)] (tupD [polD (pw (B 2) (1+k)),ex (.int .i64 0)]):=fun k hk=>by
   rw [powL_length,powL_get (B 2) (by omega)]
   obtain ⟨j,hj⟩:∃ j,1+k = j+1:=⟨1+k - 1,by omega⟩
   rw [hj]
   exact PMul_pb (hb j (by omega)) hP h0' h0 hd hn hN
  refine AWp.loop (fun mz σ=>∃ k,k≤e - 1∧mz = e - 1 - k∧σ = ⟨[(0,.d (ex (.int .i64 ((2:Nat):Int)))),(1,.d (ex (.int .i64 (e:Nat)))),(2,.ptr 0 0),(3,.ptr 1 0)],[.var 144 [.own 2,.own 3,.own 4,.own 5,.own 6,.own 7,.own 8,.own 9],.var 77 ((pol8 B).map .d),.row 23 1 (rowP (powL (B 0) (l 0))),.row 23 1 (rowP (powL (B 1) (l 1))),.row 23 1 (rowP (powL (B 2) (1+k))),.row 23 1 (rowP (powL (B 3) (l 3))),.row 23 1 (rowP (powL (B 4) (l 4))),.row 23 1 (rowP (powL (B 5) (l 5))),.row 23 1 (rowP (powL (B 6) (l 6))),.row 23 1 (rowP (powL (B 7) (l 7))),.pin [(pv0,.own 0),(pv1,.own 1)]]⟩) ?le ⟨0,by omega,rfl,rfl⟩ ?round
  case le=>exact AS.le_of (by refine Yd ?_;refine Yd ?_;refine Yp ?_;refine Yp ?_;exact FrLe.nil) (by refine HpLe.cons (OwLe.varB rfl) ?_;apply Yv;apply Yr;apply Yr;apply Yr;apply Yr;apply Yr;apply Yr;apply Yr;apply Yr;refine HpLe.cons (OwLe.pinB rfl) ?_;exact HpLe.nil)
  case round =>
   rintro mz _ ⟨k,hk,rfl,rfl⟩
   by_cases hlt:k<e - 1
   ·have hlen:=powL_length (B 2) (1+k)
    have hsn:=rowP_snoc (B 2) (1+k)
    apply AWp.seq;apply Y1;refine Wm ?_;refine Wq Qz.ixP ?_;refine Wq Qz.loadP1 ?_;refine Wq Qz.lenN ?_;refine Wm ?_;refine Wq Qz.cmpT ?_;apply Y0;refine Ct ?_;apply Ys;apply AWp.block;apply AWp.seq
    refine AWp.dr' (DrawOk.float (e:=16) (by kernel_rfl) (K4 (K4 (K4 (K4 (AddE.keep (AddE.add (AddE.keep AddE.nil))))))) (by kernel_rfl)) [[],[(27,0)],[(28,1)],[],[(30,3)],[(31,4)],[(32,5)],[(33,6)],[(29,2),(34,7)],[(35,8)],[],[(37,10)],[(38,11)],[(36,9),(39,12)],[(40,13)],[(26,14)],[(26,14)]] [[],[0],[0,1],[],[3],[3,4],[3,4,5],[3,4,5,6],[0,1,2,3,4,5,6,7],[0,1,2,3,4,5,6,7,8],[],[10],[10,11],[0,1,2,3,4,5,6,7,8,9,10,11,12],[0,1,2,3,4,5,6,7,8,9,10,11,12,13],[0,1,2,3,4,5,6,7,8,9,10,11,12,13,14],[0,1,2,3,4,5,6,7,8,9,10,11,12,13,14]] rfl (by kernel_rfl) (by kernel_rfl) (by kernel_rfl) ?_
    refine Xq Qz.move ?_;refine Xq Qz.ixP ?_;refine Xq Qz.loadP1 ?_;refine Xq Qz.move ?_;refine Xq Qz.ixP ?_;refine Xq Qz.loadP1 ?_;refine Xq Qz.lenN ?_;refine Xq Qz.pred ?_;refine Xq Qz.indexN ?_;refine Xq Qz.ldE1 ?_;refine Xq Qz.move ?_;refine Xq Qz.ixP ?_;(refine ⟨_,HStep.q rfl (Qs.ldX1 (ah rfl) rfl (tab_of rfl) rfl (CellAt.p8 (by omega))),?_⟩;refine ⟨_,rfl,?_⟩);refine Xq (Qz.call (hx k hlt)) ?_;refine Xq Qz.move ?_;refine Xq Qz.ext ?_;refine Xq Qz.ext ?_;refine ⟨_,rfl,?_⟩
    refine Wa ?_;refine Wa ?_;apply AWl.nil;apply OnlyN.mk';apply Yn;apply AWp.region;refine Wm ?_;refine Wm ?_;refine Wq Qz.ixP ?_;refine Wq Qz.loadP1 ?_;refine Wm ?_;(refine AWs.q rfl rfl ?_;(refine Bq.slice (tab_of rfl) (tab_of rfl) rfl rfl rfl rfl rfl ?_;(repeat ((first | refine ⟨_,PartOk.ag (ao rfl),?_⟩ | refine ⟨_,PartOk.one rfl (by first | exact One.ex_ rfl | exact One.sl | exact One.ep),?_⟩);refine ⟨_,rfl,?_⟩));refine ⟨_,rfl,?_⟩));(refine AWs.appA (ao rfl) rfl rfl (tab_of rfl) (tab_of rfl) rfl rfl (by simp [chunks_length];omega) (by simp [chunks_length];omega) rfl (by repeat (first | exact DownR.nil | apply DownR.var | apply DownR.row | apply DownR.obj | apply DownR.dead | (apply DownR.pin;rfl) | (apply DownR.varA;rfl))) rfl ?_);refine Wq Qz.ixP ?_;refine AWs.stA1 (ao rfl) (ao rfl) rfl (tab_of rfl) (by first | exact One.own rfl | exact One.sl) rfl rfl ?_;apply AWl.nil;apply ABlock.normal
    refine ALoop.next (e - 1 - (k+1)) (by omega) ⟨k+1,by omega,rfl,rfl⟩ ?_
    exact AS.le_of (by refine Yd ?_;refine Yd ?_;refine Yp ?_;refine Yp ?_;exact FrLe.nil) (by refine HpLe.cons (OwLe.varB rfl) ?_;apply Yv;apply Yr;apply Yr;refine HpLe.cons (OwLe.row hsn) ?_;apply Yr;apply Yr;apply Yr;apply Yr;apply Yr;refine HpLe.cons (OwLe.pinB rfl) ?_;exact HpLe.nil)
   ·obtain rfl : k = e - 1 := by omega
    have hlen:=powL_length (B 2) (1+(e - 1))
    apply AWp.seq;apply Y1;refine Wm ?_;refine Wq Qz.ixP ?_;refine Wq Qz.loadP1 ?_;refine Wq Qz.lenN ?_;refine Wm ?_;refine Wq Qz.cmpF ?_;apply Y0;refine Cf ?_;apply AWp.exit;apply AThen.exit;apply ALoop.exit;apply ABlock.hit;apply Yn;apply Y1;refine Wm ?_;refine Wq Qz.ixP ?_;refine Wq Qz.loadP1 ?_;refine Wm ?_;refine Wq Qz.pred ?_;refine Wq Qz.indexN ?_;refine Wq Qz.ldE1 ?_;refine Wa ?_;apply Y0;apply AWp.ret
    refine FinC.ret (RetsA.d (Rets.of1 (ResV.tmp rfl rfl) (D.le.of_eq (congrArg polD (powL_get (B 2) (by omega)))))) rfl ?_ rfl
    exact ⟨1+(e - 1),by omega,rfl,rfl⟩
 ·apply Y1;refine Wa ?_;apply Y0;apply AWp.seq;apply Y1;refine Wm ?_;refine Wq Qz.ixP ?_;refine Wq Qz.loadP1 ?_;refine Wq Qz.lenN ?_;refine Wq Qz.cmpF ?_;apply Y0;refine Cf ?_;apply Ys;apply AWp.seq;apply AWp.block
  have hx:∀ k,k<e - l 2→Abs Tryz.prog 18 [polD ((powL (B 2) (l 2+k)).getD ((powL (B 2) (l 2+k)).length - 1) default),polD (B 2)] (tupD [polD (pw (B 2) (l 2+k)),ex (.int .i64 0)]):=fun k hk=>by
   rw [powL_length,powL_get (B 2) (by omega)]
   obtain ⟨j,hj⟩:∃ j,l 2+k = j+1:=⟨l 2+k - 1,by omega⟩
   rw [hj]
   exact PMul_pb (hb j (by omega)) hP h0' h0 hd hn hN
  refine AWp.loop (fun mz σ=>∃ k,k≤e - l 2∧mz = e - l 2 - k∧σ = ⟨[(0,.d (ex (.int .i64 ((2:Nat):Int)))),(1,.d (ex (.int .i64 (e:Nat)))),(2,.ptr 0 0),(3,.ptr 1 0)],[.var 144 [.own 2,.own 3,.own 4,.own 5,.own 6,.own 7,.own 8,.own 9],.var 77 ((pol8 B).map .d),.row 23 1 (rowP (powL (B 0) (l 0))),.row 23 1 (rowP (powL (B 1) (l 1))),.row 23 1 (rowP (powL (B 2) (l 2+k))),.row 23 1 (rowP (powL (B 3) (l 3))),.row 23 1 (rowP (powL (B 4) (l 4))),.row 23 1 (rowP (powL (B 5) (l 5))),.row 23 1 (rowP (powL (B 6) (l 6))),.row 23 1 (rowP (powL (B 7) (l 7))),.pin [(pv0,.own 0),(pv1,.own 1)]]⟩) ?le ⟨0,by omega,rfl,rfl⟩ ?round
  case le=>exact AS.le_of (by refine Yd ?_;refine Yd ?_;refine Yp ?_;refine Yp ?_;exact FrLe.nil) (by refine HpLe.cons (OwLe.varB rfl) ?_;apply Yv;apply Yr;apply Yr;apply Yr;apply Yr;apply Yr;apply Yr;apply Yr;apply Yr;refine HpLe.cons (OwLe.pinB rfl) ?_;exact HpLe.nil)
  case round =>
   rintro mz _ ⟨k,hk,rfl,rfl⟩
   by_cases hlt:k<e - l 2
   ·have hlen:=powL_length (B 2) (l 2+k)
    have hsn:=rowP_snoc (B 2) (l 2+k)
    apply AWp.seq;apply Y1;refine Wm ?_;refine Wq Qz.ixP ?_;refine Wq Qz.loadP1 ?_;refine Wq Qz.lenN ?_;refine Wm ?_;refine Wq Qz.cmpT ?_;apply Y0;refine Ct ?_;apply Ys;apply AWp.block;apply AWp.seq
    refine AWp.dr' (DrawOk.float (e:=16) (by kernel_rfl) (K4 (K4 (K4 (K4 (AddE.keep (AddE.add (AddE.keep AddE.nil))))))) (by kernel_rfl)) [[],[(27,0)],[(28,1)],[],[(30,3)],[(31,4)],[(32,5)],[(33,6)],[(29,2),(34,7)],[(35,8)],[],[(37,10)],[(38,11)],[(36,9),(39,12)],[(40,13)],[(26,14)],[(26,14)]] [[],[0],[0,1],[],[3],[3,4],[3,4,5],[3,4,5,6],[0,1,2,3,4,5,6,7],[0,1,2,3,4,5,6,7,8],[],[10],[10,11],[0,1,2,3,4,5,6,7,8,9,10,11,12],[0,1,2,3,4,5,6,7,8,9,10,11,12,13],[0,1,2,3,4,5,6,7,8,9,10,11,12,13,14],[0,1,2,3,4,5,6,7,8,9,10,11,12,13,14]] rfl (by kernel_rfl) (by kernel_rfl) (by kernel_rfl) ?_
    refine Xq Qz.move ?_;refine Xq Qz.ixP ?_;refine Xq Qz.loadP1 ?_;refine Xq Qz.move ?_;refine Xq Qz.ixP ?_;refine Xq Qz.loadP1 ?_;refine Xq Qz.lenN ?_;refine Xq Qz.pred ?_;refine Xq Qz.indexN ?_;refine Xq Qz.ldE1 ?_;refine Xq Qz.move ?_;refine Xq Qz.ixP ?_;(refine ⟨_,HStep.q rfl (Qs.ldX1 (ah rfl) rfl (tab_of rfl) rfl (CellAt.p8 (by omega))),?_⟩;refine ⟨_,rfl,?_⟩);refine Xq (Qz.call (hx k hlt)) ?_;refine Xq Qz.move ?_;refine Xq Qz.ext ?_;refine Xq Qz.ext ?_;refine ⟨_,rfl,?_⟩
    refine Wa ?_;refine Wa ?_;apply AWl.nil;apply OnlyN.mk';apply Yn;apply AWp.region;refine Wm ?_;refine Wm ?_;refine Wq Qz.ixP ?_;refine Wq Qz.loadP1 ?_;refine Wm ?_;(refine AWs.q rfl rfl ?_;(refine Bq.slice (tab_of rfl) (tab_of rfl) rfl rfl rfl rfl rfl ?_;(repeat ((first | refine ⟨_,PartOk.ag (ao rfl),?_⟩ | refine ⟨_,PartOk.one rfl (by first | exact One.ex_ rfl | exact One.sl | exact One.ep),?_⟩);refine ⟨_,rfl,?_⟩));refine ⟨_,rfl,?_⟩));(refine AWs.appA (ao rfl) rfl rfl (tab_of rfl) (tab_of rfl) rfl rfl (by simp [chunks_length];omega) (by simp [chunks_length];omega) rfl (by repeat (first | exact DownR.nil | apply DownR.var | apply DownR.row | apply DownR.obj | apply DownR.dead | (apply DownR.pin;rfl) | (apply DownR.varA;rfl))) rfl ?_);refine Wq Qz.ixP ?_;refine AWs.stA1 (ao rfl) (ao rfl) rfl (tab_of rfl) (by first | exact One.own rfl | exact One.sl) rfl rfl ?_;apply AWl.nil;apply ABlock.normal
    refine ALoop.next (e - l 2 - (k+1)) (by omega) ⟨k+1,by omega,rfl,rfl⟩ ?_
    exact AS.le_of (by refine Yd ?_;refine Yd ?_;refine Yp ?_;refine Yp ?_;exact FrLe.nil) (by refine HpLe.cons (OwLe.varB rfl) ?_;apply Yv;apply Yr;apply Yr;refine HpLe.cons (OwLe.row hsn) ?_;apply Yr;apply Yr;apply Yr;apply Yr;apply Yr;refine HpLe.cons (OwLe.pinB rfl) ?_;exact HpLe.nil)
   ·obtain rfl : k = e - l 2 := by omega
    have hlen:=powL_length (B 2) (l 2+(e - l 2))
    apply AWp.seq;apply Y1;refine Wm ?_;refine Wq Qz.ixP ?_;refine Wq Qz.loadP1 ?_;refine Wq Qz.lenN ?_;refine Wm ?_;refine Wq Qz.cmpF ?_;apply Y0;refine Cf ?_;apply AWp.exit;apply AThen.exit;apply ALoop.exit;apply ABlock.hit;apply Yn;apply Y1;refine Wm ?_;refine Wq Qz.ixP ?_;refine Wq Qz.loadP1 ?_;refine Wm ?_;refine Wq Qz.pred ?_;refine Wq Qz.indexN ?_;refine Wq Qz.ldE1 ?_;refine Wa ?_;apply Y0;apply AWp.ret
    refine FinC.ret (RetsA.d (Rets.of1 (ResV.tmp rfl rfl) (D.le.of_eq (congrArg polD (powL_get (B 2) (by omega)))))) rfl ?_ rfl
    exact ⟨l 2+(e - l 2),by omega,rfl,rfl⟩
theorem powers1_3 (B : Nat→List Tm) (l:Nat→Nat) (e E n N L M:Nat) (d0 d:Int) (hP:PB (B 3) n N d0) (hb:∀ k,k<E→PB (pw (B 3) k) L M d) (h0:0≤d0) (h0':0≤d) (hd:d+d0≤65535) (hn:L*n≤100000) (hN:M+N+1≤10000000) (he0:0<e) (he:e≤E) (hl:l 3≤E) (hE:E≤1000) :
  Con Tryz.prog 149 [.d (ex (.int .i64 ((3:Nat):Int))),.d (ex (.int .i64 (e:Nat))),.ptr 0 0,.ptr 1 0] (tabH B l) [2,3,4,5,6,7,8,9] (fun r hp'=>∃ n',n'≤E∧r = .d (polD (pw (B 3) (e - 1)))∧hp' = tabHt B (upF l 3 n') [.dead]):=by
 have hlen0:=powL_length (B 3) (l 3)
 refine Con.intro10 Tryz.func149 rfl (callFunc_run Tryz.func149 (by kernel_rfl) (by kernel_rfl)) rfl fun s0 pv0 pv1 pv2 pv3 pv4 pv5 pv6 pv7 pv8 pv9=>?_
 rw [Tryz.ntmps149]
 by_cases hz:l 3 = 0
 ·apply AWp.seq; apply AWp.region; refine Wa ?_; apply AWl.nil; apply Yn; apply AWp.seq; apply AWp.seq; apply AWp.region; refine Wm ?_; refine Wq Qz.ixP ?_; refine Wq Qz.loadP1 ?_; refine Wq Qz.lenN ?_; refine Wq Qz.cmpT ?_; apply AWl.nil; apply Yn; refine Ct ?_; apply AWp.region; refine Wm ?_; refine Wm ?_; refine Wq Qz.ixP ?_; (refine AWs.q rfl rfl ?_; refine ⟨_, Qs.ldX1 (ao rfl) rfl (tab_of rfl) rfl (CellAt.p8 (by omega)), ?_⟩); (refine AWs.seat1 5 (tab_of rfl) (tab_of rfl) rfl rfl (ao rfl) (by first | exact One.ex_ rfl | exact One.sl | exact One.ep) rfl rfl rfl rfl (by repeat (first | exact DownR.nil | apply DownR.var | apply DownR.row | apply DownR.obj | apply DownR.dead | (apply DownR.pin; rfl) | (apply DownR.varA; rfl))) rfl ?_); refine Wq Qz.ixP ?_; refine AWs.stA1 (ao rfl) (ao rfl) rfl (tab_of rfl) (by first | exact One.own rfl | exact One.sl) rfl rfl ?_; apply AWl.nil; apply Yn; apply AWp.seq; apply AWp.block
  have hx:∀ k,k<e - 1→Abs Tryz.prog 18 [polD ((powL (B 3) (1+k)).getD ((powL (B 3) (1+k)).length - 1) default),polD (B 3)] (tupD [polD (pw (B 3) (1+k)),ex (.int .i64 0)]):=fun k hk=>by
   rw [powL_length,powL_get (B 3) (by omega)]
   obtain ⟨j,hj⟩:∃ j,1+k = j+1:=⟨1+k - 1,by omega⟩
   rw [hj]
   exact PMul_pb (hb j (by omega)) hP h0' h0 hd hn hN
  refine AWp.loop (fun mz σ=>∃ k,k≤e - 1∧mz = e - 1 - k∧σ = ⟨[(0,.d (ex (.int .i64 ((3:Nat):Int)))),(1,.d (ex (.int .i64 (e:Nat)))),(2,.ptr 0 0),(3,.ptr 1 0)],[.var 144 [.own 2,.own 3,.own 4,.own 5,.own 6,.own 7,.own 8,.own 9],.var 77 ((pol8 B).map .d),.row 23 1 (rowP (powL (B 0) (l 0))),.row 23 1 (rowP (powL (B 1) (l 1))),.row 23 1 (rowP (powL (B 2) (l 2))),.row 23 1 (rowP (powL (B 3) (1+k))),.row 23 1 (rowP (powL (B 4) (l 4))),.row 23 1 (rowP (powL (B 5) (l 5))),.row 23 1 (rowP (powL (B 6) (l 6))),.row 23 1 (rowP (powL (B 7) (l 7))),.pin [(pv0,.own 0),(pv1,.own 1)]]⟩) ?le ⟨0,by omega,rfl,rfl⟩ ?round
  case le=>exact AS.le_of (by refine Yd ?_;refine Yd ?_;refine Yp ?_;refine Yp ?_;exact FrLe.nil) (by refine HpLe.cons (OwLe.varB rfl) ?_;apply Yv;apply Yr;apply Yr;apply Yr;apply Yr;apply Yr;apply Yr;apply Yr;apply Yr;refine HpLe.cons (OwLe.pinB rfl) ?_;exact HpLe.nil)
  case round =>
   rintro mz _ ⟨k,hk,rfl,rfl⟩
   by_cases hlt:k<e - 1
   ·have hlen:=powL_length (B 3) (1+k)
    have hsn:=rowP_snoc (B 3) (1+k)
    apply AWp.seq;apply Y1;refine Wm ?_;refine Wq Qz.ixP ?_;refine Wq Qz.loadP1 ?_;refine Wq Qz.lenN ?_;refine Wm ?_;refine Wq Qz.cmpT ?_;apply Y0;refine Ct ?_;apply Ys;apply AWp.block;apply AWp.seq
    refine AWp.dr' (DrawOk.float (e:=16) (by kernel_rfl) (K4 (K4 (K4 (K4 (AddE.keep (AddE.add (AddE.keep AddE.nil))))))) (by kernel_rfl)) [[],[(27,0)],[(28,1)],[],[(30,3)],[(31,4)],[(32,5)],[(33,6)],[(29,2),(34,7)],[(35,8)],[],[(37,10)],[(38,11)],[(36,9),(39,12)],[(40,13)],[(26,14)],[(26,14)]] [[],[0],[0,1],[],[3],[3,4],[3,4,5],[3,4,5,6],[0,1,2,3,4,5,6,7],[0,1,2,3,4,5,6,7,8],[],[10],[10,11],[0,1,2,3,4,5,6,7,8,9,10,11,12],[0,1,2,3,4,5,6,7,8,9,10,11,12,13],[0,1,2,3,4,5,6,7,8,9,10,11,12,13,14],[0,1,2,3,4,5,6,7,8,9,10,11,12,13,14]] rfl (by kernel_rfl) (by kernel_rfl) (by kernel_rfl) ?_
    refine Xq Qz.move ?_;refine Xq Qz.ixP ?_;refine Xq Qz.loadP1 ?_;refine Xq Qz.move ?_;refine Xq Qz.ixP ?_;refine Xq Qz.loadP1 ?_;refine Xq Qz.lenN ?_;refine Xq Qz.pred ?_;refine Xq Qz.indexN ?_;refine Xq Qz.ldE1 ?_;refine Xq Qz.move ?_;refine Xq Qz.ixP ?_;(refine ⟨_,HStep.q rfl (Qs.ldX1 (ah rfl) rfl (tab_of rfl) rfl (CellAt.p8 (by omega))),?_⟩;refine ⟨_,rfl,?_⟩);refine Xq (Qz.call (hx k hlt)) ?_;refine Xq Qz.move ?_;refine Xq Qz.ext ?_;refine Xq Qz.ext ?_;refine ⟨_,rfl,?_⟩
    refine Wa ?_;refine Wa ?_;apply AWl.nil;apply OnlyN.mk';apply Yn;apply AWp.region;refine Wm ?_;refine Wm ?_;refine Wq Qz.ixP ?_;refine Wq Qz.loadP1 ?_;refine Wm ?_;(refine AWs.q rfl rfl ?_;(refine Bq.slice (tab_of rfl) (tab_of rfl) rfl rfl rfl rfl rfl ?_;(repeat ((first | refine ⟨_,PartOk.ag (ao rfl),?_⟩ | refine ⟨_,PartOk.one rfl (by first | exact One.ex_ rfl | exact One.sl | exact One.ep),?_⟩);refine ⟨_,rfl,?_⟩));refine ⟨_,rfl,?_⟩));(refine AWs.appA (ao rfl) rfl rfl (tab_of rfl) (tab_of rfl) rfl rfl (by simp [chunks_length];omega) (by simp [chunks_length];omega) rfl (by repeat (first | exact DownR.nil | apply DownR.var | apply DownR.row | apply DownR.obj | apply DownR.dead | (apply DownR.pin;rfl) | (apply DownR.varA;rfl))) rfl ?_);refine Wq Qz.ixP ?_;refine AWs.stA1 (ao rfl) (ao rfl) rfl (tab_of rfl) (by first | exact One.own rfl | exact One.sl) rfl rfl ?_;apply AWl.nil;apply ABlock.normal
    refine ALoop.next (e - 1 - (k+1)) (by omega) ⟨k+1,by omega,rfl,rfl⟩ ?_
    exact AS.le_of (by refine Yd ?_;refine Yd ?_;refine Yp ?_;refine Yp ?_;exact FrLe.nil) (by refine HpLe.cons (OwLe.varB rfl) ?_;apply Yv;apply Yr;apply Yr;apply Yr;refine HpLe.cons (OwLe.row hsn) ?_;apply Yr;apply Yr;apply Yr;apply Yr;refine HpLe.cons (OwLe.pinB rfl) ?_;exact HpLe.nil)
   ·obtain rfl : k = e - 1 := by omega
    have hlen:=powL_length (B 3) (1+(e - 1))
    apply AWp.seq;apply Y1;refine Wm ?_;refine Wq Qz.ixP ?_;refine Wq Qz.loadP1 ?_;refine Wq Qz.lenN ?_;refine Wm ?_;refine Wq Qz.cmpF ?_;apply Y0;refine Cf ?_;apply AWp.exit;apply AThen.exit;apply ALoop.exit;apply ABlock.hit;apply Yn;apply Y1;refine Wm ?_;refine Wq Qz.ixP ?_;refine Wq Qz.loadP1 ?_;refine Wm ?_;refine Wq Qz.pred ?_;refine Wq Qz.indexN ?_;refine Wq Qz.ldE1 ?_;refine Wa ?_;apply Y0;apply AWp.ret
    refine FinC.ret (RetsA.d (Rets.of1 (ResV.tmp rfl rfl) (D.le.of_eq (congrArg polD (powL_get (B 3) (by omega)))))) rfl ?_ rfl
    exact ⟨1+(e - 1),by omega,rfl,rfl⟩
 ·apply Y1;refine Wa ?_;apply Y0;apply AWp.seq;apply Y1;refine Wm ?_;refine Wq Qz.ixP ?_;refine Wq Qz.loadP1 ?_;refine Wq Qz.lenN ?_;refine Wq Qz.cmpF ?_;apply Y0;refine Cf ?_;apply Ys;apply AWp.seq;apply AWp.block
  have hx:∀ k,k<e - l 3→Abs Tryz.prog 18 [polD ((powL (B 3) (l 3+k)).getD ((powL (B 3) (l 3+k)).length - 1) default),polD (B 3)] (tupD [polD (pw (B 3) (l 3+k)),ex (.int .i64 0)]):=fun k hk=>by
   rw [powL_length,powL_get (B 3) (by omega)]
   obtain ⟨j,hj⟩:∃ j,l 3+k = j+1:=⟨l 3+k - 1,by omega⟩
   rw [hj]
   exact PMul_pb (hb j (by omega)) hP h0' h0 hd hn hN
  refine AWp.loop (fun mz σ=>∃ k,k≤e - l 3∧mz = e - l 3 - k∧σ = ⟨[(0,.d (ex (.int .i64 ((3:Nat):Int)))),(1,.d (ex (.int .i64 (e:Nat)))),(2,.ptr 0 0),(3,.ptr 1 0)],[.var 144 [.own 2,.own 3,.own 4,.own 5,.own 6,.own 7,.own 8,.own 9],.var 77 ((pol8 B).map .d),.row 23 1 (rowP (powL (B 0) (l 0))),.row 23 1 (rowP (powL (B 1) (l 1))),.row 23 1 (rowP (powL (B 2) (l 2))),.row 23 1 (rowP (powL (B 3) (l 3+k))),.row 23 1 (rowP (powL (B 4) (l 4))),.row 23 1 (rowP (powL (B 5) (l 5))),.row 23 1 (rowP (powL (B 6) (l 6))),.row 23 1 (rowP (powL (B 7) (l 7))),.pin [(pv0,.own 0),(pv1,.own 1)]]⟩) ?le ⟨0,by omega,rfl,rfl⟩ ?round
  case le=>exact AS.le_of (by refine Yd ?_;refine Yd ?_;refine Yp ?_;refine Yp ?_;exact FrLe.nil) (by refine HpLe.cons (OwLe.varB rfl) ?_;apply Yv;apply Yr;apply Yr;apply Yr;apply Yr;apply Yr;apply Yr;apply Yr;apply Yr;refine HpLe.cons (OwLe.pinB rfl) ?_;exact HpLe.nil)
  case round =>
   rintro mz _ ⟨k,hk,rfl,rfl⟩
   by_cases hlt:k<e - l 3
   ·have hlen:=powL_length (B 3) (l 3+k)
    have hsn:=rowP_snoc (B 3) (l 3+k)
    apply AWp.seq;apply Y1;refine Wm ?_;refine Wq Qz.ixP ?_;refine Wq Qz.loadP1 ?_;refine Wq Qz.lenN ?_;refine Wm ?_;refine Wq Qz.cmpT ?_;apply Y0;refine Ct ?_;apply Ys;apply AWp.block;apply AWp.seq
    refine AWp.dr' (DrawOk.float (e:=16) (by kernel_rfl) (K4 (K4 (K4 (K4 (AddE.keep (AddE.add (AddE.keep AddE.nil))))))) (by kernel_rfl)) [[],[(27,0)],[(28,1)],[],[(30,3)],[(31,4)],[(32,5)],[(33,6)],[(29,2),(34,7)],[(35,8)],[],[(37,10)],[(38,11)],[(36,9),(39,12)],[(40,13)],[(26,14)],[(26,14)]] [[],[0],[0,1],[],[3],[3,4],[3,4,5],[3,4,5,6],[0,1,2,3,4,5,6,7],[0,1,2,3,4,5,6,7,8],[],[10],[10,11],[0,1,2,3,4,5,6,7,8,9,10,11,12],[0,1,2,3,4,5,6,7,8,9,10,11,12,13],[0,1,2,3,4,5,6,7,8,9,10,11,12,13,14],[0,1,2,3,4,5,6,7,8,9,10,11,12,13,14]] rfl (by kernel_rfl) (by kernel_rfl) (by kernel_rfl) ?_
    refine Xq Qz.move ?_;refine Xq Qz.ixP ?_;refine Xq Qz.loadP1 ?_;refine Xq Qz.move ?_;refine Xq Qz.ixP ?_;refine Xq Qz.loadP1 ?_;refine Xq Qz.lenN ?_;refine Xq Qz.pred ?_;refine Xq Qz.indexN ?_;refine Xq Qz.ldE1 ?_;refine Xq Qz.move ?_;refine Xq Qz.ixP ?_;(refine ⟨_,HStep.q rfl (Qs.ldX1 (ah rfl) rfl (tab_of rfl) rfl (CellAt.p8 (by omega))),?_⟩;refine ⟨_,rfl,?_⟩);refine Xq (Qz.call (hx k hlt)) ?_;refine Xq Qz.move ?_;refine Xq Qz.ext ?_;refine Xq Qz.ext ?_;refine ⟨_,rfl,?_⟩
    refine Wa ?_;refine Wa ?_;apply AWl.nil;apply OnlyN.mk';apply Yn;apply AWp.region;refine Wm ?_;refine Wm ?_;refine Wq Qz.ixP ?_;refine Wq Qz.loadP1 ?_;refine Wm ?_;(refine AWs.q rfl rfl ?_;(refine Bq.slice (tab_of rfl) (tab_of rfl) rfl rfl rfl rfl rfl ?_;(repeat ((first | refine ⟨_,PartOk.ag (ao rfl),?_⟩ | refine ⟨_,PartOk.one rfl (by first | exact One.ex_ rfl | exact One.sl | exact One.ep),?_⟩);refine ⟨_,rfl,?_⟩));refine ⟨_,rfl,?_⟩));(refine AWs.appA (ao rfl) rfl rfl (tab_of rfl) (tab_of rfl) rfl rfl (by simp [chunks_length];omega) (by simp [chunks_length];omega) rfl (by repeat (first | exact DownR.nil | apply DownR.var | apply DownR.row | apply DownR.obj | apply DownR.dead | (apply DownR.pin;rfl) | (apply DownR.varA;rfl))) rfl ?_);refine Wq Qz.ixP ?_;refine AWs.stA1 (ao rfl) (ao rfl) rfl (tab_of rfl) (by first | exact One.own rfl | exact One.sl) rfl rfl ?_;apply AWl.nil;apply ABlock.normal
    refine ALoop.next (e - l 3 - (k+1)) (by omega) ⟨k+1,by omega,rfl,rfl⟩ ?_
    exact AS.le_of (by refine Yd ?_;refine Yd ?_;refine Yp ?_;refine Yp ?_;exact FrLe.nil) (by refine HpLe.cons (OwLe.varB rfl) ?_;apply Yv;apply Yr;apply Yr;apply Yr;refine HpLe.cons (OwLe.row hsn) ?_;apply Yr;apply Yr;apply Yr;apply Yr;refine HpLe.cons (OwLe.pinB rfl) ?_;exact HpLe.nil)
   ·obtain rfl : k = e - l 3 := by omega
    have hlen:=powL_length (B 3) (l 3+(e - l 3))
    apply AWp.seq;apply Y1;refine Wm ?_;refine Wq Qz.ixP ?_;refine Wq Qz.loadP1 ?_;refine Wq Qz.lenN ?_;refine Wm ?_;refine Wq Qz.cmpF ?_;apply Y0;refine Cf ?_;apply AWp.exit;apply AThen.exit;apply ALoop.exit;apply ABlock.hit;apply Yn;apply Y1;refine Wm ?_;refine Wq Qz.ixP ?_;refine Wq Qz.loadP1 ?_;refine Wm ?_;refine Wq Qz.pred ?_;refine Wq Qz.indexN ?_;refine Wq Qz.ldE1 ?_;refine Wa ?_;apply Y0;apply AWp.ret
    refine FinC.ret (RetsA.d (Rets.of1 (ResV.tmp rfl rfl) (D.le.of_eq (congrArg polD (powL_get (B 3) (by omega)))))) rfl ?_ rfl
    exact ⟨l 3+(e - l 3),by omega,rfl,rfl⟩
def pwL (P : List Tm):Nat→List Tm
 | 0=>[⟨1,fun _=>0⟩]
 | n+1=>mulL (pwL P n) P
def mp (B : Nat→List Tm) (m:Nat→Int):Nat→List Tm
 | 0=>[⟨1,fun _=>0⟩]
 | i+1=>mulL (mp B m i) (pwL (B i) (m i).toNat)
theorem mulL_one (P : List Tm):Sim (mulL P [⟨1,fun _=>0⟩]) P:=fun f hf=>by
 rw [dot_mulL]
 refine dot_congr fun t _=>?_
 have e:add8 t.m (fun _=>0) = t.m:=by funext i;simp [add8]
 simp only [dot,e]
 grind
theorem one_mulL (P : List Tm):Sim (mulL [⟨1,fun _=>0⟩] P) P:=(mulL_comm _ _).trans (mulL_one P)
theorem pwL_add (P : List Tm) (m:Nat):∀ n,Sim (pwL P (m+n)) (mulL (pwL P m) (pwL P n))
 | 0=>(mulL_one _).symm
 | n+1=>((pwL_add P m n).mul (Sim.refl P)).trans (mulL_assoc _ _ _)
theorem pw_sim (P : List Tm):∀ k,Sim (pw P k) (pwL P (k+1))
 | 0=>(one_mulL P).symm
 | k+1=>(pmul_sim _ _).trans ((pw_sim P k).mul (Sim.refl P))
theorem mp_eqv (B : Nat→List Tm) {a b:Nat→Int} (h:Eqv a b):∀ i,i≤8→mp B a i = mp B b i
 | 0,_=>rfl
 | i+1,hi=>by simp only [mp];rw [mp_eqv B h i (by omega),h i (by omega)]
def gS (B : Nat→List Tm) (f:(Nat→Int)→Rat):(Nat→Int)→Rat:=fun m=>dot f (mp B m 8)
theorem gS_resp (B : Nat→List Tm) (f:(Nat→Int)→Rat):Resp (gS B f):=fun a b h=>by simp only [gS,mp_eqv B h 8 (by omega)]
theorem mulL_scl (c : Rat) (A P:List Tm):Sim (mulL (scl c A) P) (scl c (mulL A P)):=fun f _=>by
 rw [dot_mulL,dot_scl,dot_scl,dot_mulL]
theorem scl_sim {c : Rat} {P Q:List Tm} (h:Sim P Q):Sim (scl c P) (scl c Q):=fun f hf=>by rw [dot_scl,dot_scl,h f hf]
def trmL (c : Rat) (B:Nat→List Tm) (m:Nat→Int):Nat→List Tm
 | 0=>constL c
 | i+1=>if 0<m i then pmul (trmL c B m i) (pw (B i) ((m i).toNat - 1)) else trmL c B m i
theorem constL_scl (c : Rat):Sim (constL c) (scl c [⟨1,fun _=>0⟩]):=fun f _=>by
 unfold constL
 split
 ·rename_i h;rw [h];simp [dot,scl];grind
 ·simp [dot,scl]
theorem trmL_sim (c : Rat) (B:Nat→List Tm) (m:Nat→Int):∀ i,Sim (trmL c B m i) (scl c (mp B m i))
 | 0=>constL_scl c
 | i+1=>by
  simp only [trmL,mp]
  split
  ·rename_i h
   obtain ⟨e,he⟩:∃ e,(m i).toNat = e+1:=⟨(m i).toNat - 1,by omega⟩
   rw [he]
   exact (pmul_sim _ _).trans (((trmL_sim c B m i).mul (pw_sim (B i) e)).trans (mulL_scl _ _ _))
  ·rename_i h
   have he:(m i).toNat = 0:=by omega
   rw [he]
   exact (trmL_sim c B m i).trans (scl_sim (mulL_one _).symm)
theorem trmL_dot (c : Rat) (B:Nat→List Tm) (m:Nat→Int) {f:(Nat→Int)→Rat} (hf:Resp f):dot f (trmL c B m 8) = c*gS B f m:=by rw [trmL_sim c B m 8 f hf,dot_scl];rfl
theorem trmL_zero (c : Rat) {B:Nat→List Tm} {m:Nat→Int} {z:Nat} (hz:z<8) (hm:0<m z) (hB:B z = []):Sim (trmL c B m 8) []:=fun f hf=>by
 have key:∀ i,z<i→mp B m i = []:=by
  intro i
  induction i with
  | zero=>intro h;omega
  | succ i ih =>
   intro h
   by_cases e:z = i
   ·subst e
    obtain ⟨j,hj⟩:∃ j,(m z).toNat = j+1:=⟨(m z).toNat - 1,by omega⟩
    simp only [mp,hj,pwL,hB,mulL_nil_right]
   ·simp only [mp,ih (by omega),mulL,List.flatMap_nil]
 rw [trmL_sim c B m 8 f hf,dot_scl,key 8 hz]
 simp [dot]
def substL (B : Nat→List Tm) (P:List Tm):List Tm:=P.flatMap fun t=>trmL t.c B t.m 8
theorem substL_cons (B : Nat→List Tm) (t:Tm) (P:List Tm):substL B (t :: P) = trmL t.c B t.m 8 ++ substL B P:=by simp only [substL,List.flatMap_cons]
theorem substL_dot (B : Nat→List Tm) {f:(Nat→Int)→Rat} (hf:Resp f):∀ P:List Tm,dot f (substL B P) = dot (gS B f) P
 | []=>by simp only [substL,List.flatMap_nil,dot]
 | t :: P=>by rw [substL_cons,dot_append,trmL_dot t.c B t.m hf,substL_dot B hf P];simp only [dot]
theorem substL_append (B : Nat→List Tm) (P Q:List Tm):substL B (P ++ Q) = substL B P ++ substL B Q:=by simp [substL]
def varB (p : Nat→Nat) (i:Nat):List Tm:=[⟨1,unitE (p i)⟩]
def movE (p : Nat→Nat) (m:Nat→Int):Nat→(Nat→Int)
 | 0=>fun _=>0
 | k+1=>fun j=>movE p m k j+(if j = p k then m k else 0)
theorem pwL_var (p : Nat→Nat) (i:Nat):∀ n:Nat,∃ a,pwL (varB p i) n = [⟨1,a⟩]∧∀ j,a j = if j = p i then (n:Int) else 0
 | 0=>⟨_,rfl,fun j=>by split <;> rfl⟩
 | n+1=>by
  obtain ⟨a,h1,h2⟩:=pwL_var p i n
  refine ⟨add8 a (unitE (p i)),by rw [pwL,h1];simp [mulL,varB],fun j=>?_⟩
  simp only [add8,h2,unitE,setM]
  split <;> simp
theorem mp_var (p : Nat→Nat) {m:Nat→Int} (hm:∀ i,i<8→0≤m i):∀ i,i≤8→mp (varB p) m i = [⟨1,movE p m i⟩]
 | 0,_=>rfl
 | i+1,hi=>by
  obtain ⟨a,h1,h2⟩:=pwL_var p i (m i).toNat
  rw [mp,mp_var p hm i (by omega),h1]
  have h3:=hm i (by omega)
  have e:add8 (movE p m i) a = movE p m (i+1):=by
   funext j
   simp only [add8,movE,h2]
   split
   ·rw [Int.toNat_of_nonneg h3]
   ·rfl
  simp [mulL,e]
theorem subst_var (p : Nat→Nat) {P:List Tm} (hP:∀ t∈P,∀ i,i<8→0≤t.m i):Sim (substL (varB p) P) (P.map fun t=>⟨t.c,movE p t.m 8⟩):=fun f hf=>by
 rw [substL_dot _ hf]
 have h1:dot (gS (varB p) f) P = dot (fun m=>f (movE p m 8)) P:=dot_congr fun t ht=>by
  simp only [gS,mp_var p (hP t ht) 8 (by omega),dot]
  grind
 have h2:=dot_map f 1 (fun m=>movE p m 8) P
 have h3:(P.map fun t=>(⟨1*t.c,movE p t.m 8⟩:Tm)) = P.map fun t=>⟨t.c,movE p t.m 8⟩:=List.map_congr_left fun t _=>by rw [Rat.one_mul]
 rw [h3] at h2
 rw [h1,h2,Rat.one_mul]
theorem PB.mulS {P Q:List Tm} {n N n' N':Nat} {d d':Int} (h:PB P n N d) (k:PB Q n' N' d') (h0:0≤d) (h0':0≤d'):PB (pmul P Q) (n'*n) (n'*(N'+N+1)) (d'+d) :=
 (k.mul h h0' h0).same (canon_unique (k.mul h h0' h0).can (h.mul k h0 h0').can (pmul_comm Q P))
def sN (m : Nat→Int):Nat→Nat
 | 0=>0
 | i+1=>sN m i+(m i).toNat
theorem sN_mono {m : Nat→Int}:∀ {i j:Nat},i≤j→sN m i≤sN m j
  | i, 0, h => by have : i = 0 := by omega
                  subst this;exact Nat.le_refl _
  | i,j+1,h=>by
    by_cases e:i = j+1
    · subst e;exact Nat.le_refl _
    · have := sN_mono (m := m) (i := i) (j := j) (by omega)
      simp only [sN]
      omega
structure SubB (B : Nat→List Tm) (t w:Nat) (d:Int) (K D:Nat) (U M:Nat→Nat):Prop where
 hB:∀ i,i<8→PB (B i) t w d
 d0:0≤d
 t0:0<t
 dD:(D:Int)*d≤65535
 tD:t ^ D≤100000
 U0:K≤U 0
 M1:w≤M 1
 hM:∀ e,e<D→0<e→t*(w+M e+1)≤M (e+1)
 hU:∀ a,a≤D→∀ e,e≤D→0<e→a+e≤D→t ^ e*(M e+U a+1)≤U (a+e)
 W:∀ a,a≤D→∀ e,e≤D→0<e→a+e≤D→U a+M e+1≤10000000
 Wm:∀ e,e<D→0<e→M e+w+1≤10000000
section
variable {B : Nat→List Tm} {t w:Nat} {d:Int} {K D:Nat} {U M:Nat→Nat} (h:SubB B t w d K D U M)
include h
theorem SubB.dN {a : Nat} (ha:a≤D):(a:Int)*d≤65535:=Int.le_trans (Int.mul_le_mul_of_nonneg_right (by omega) h.d0) h.dD
theorem SubB.d1 (a : Nat):0≤(a:Int)*d:=Int.mul_nonneg (by omega) h.d0
theorem SubB.tN {a : Nat} (ha:a≤D):t ^ a≤100000:=Nat.le_trans (Nat.pow_le_pow_right h.t0 ha) h.tD
theorem SubB.pw {i : Nat} (hi:i<8):∀ k,k<D→PB (pw (B i) k) (t ^ (k+1)) (M (k+1)) (((k+1:Nat):Int)*d)
 | 0,_=>(h.hB i hi).mono (by simp) h.M1 (by simp)
 | k+1,hk=>by
  have h1:=SubB.pw hi k (by omega)
  refine (h1.mulS (h.hB i hi) (h.d1 _) h.d0).mono (by rw [Nat.pow_succ t (k+1),Nat.mul_comm];exact Nat.le_refl _) (h.hM (k+1) hk (by omega)) ?_
  rw [show ((k+1+1:Nat):Int) = ((k+1:Nat):Int)+1 by omega,Int.add_mul]
  omega
theorem SubB.trm {c : Rat} (hc:RSz c K) {m:Nat→Int}:∀ i,i≤8→sN m i≤D→PB (trmL c B m i) (t ^ sN m i) (U (sN m i)) ((sN m i:Int)*d)
 | 0,_,_=>(constL_pb hc (d:=0) (by omega)).mono (by simp [sN]) h.U0 (by simp [sN])
 | i+1,hi,hs=>by
  have hs':sN m i+(m i).toNat≤D:=hs
  have h1:=SubB.trm hc (m:=m) i (by omega) (by omega)
  simp only [trmL]
  split
  ·rename_i hm
   obtain ⟨e,he⟩:∃ e,(m i).toNat = e+1:=⟨(m i).toNat - 1,by omega⟩
   have h2:=h.pw (i:=i) (by omega) e (by omega)
   have h3:=h.hU (sN m i) (by omega) (e+1) (by omega) (by omega) (by omega)
   have e1:sN m (i+1) = sN m i+(e+1):=by simp only [sN,he]
   rw [e1,he]
   refine (h1.mulS h2 (h.d1 _) (h.d1 _)).mono ?_ h3 ?_
   ·exact Nat.le_of_eq (by rw [Nat.pow_add t (sN m i) (e+1),Nat.mul_comm])
   ·rw [show ((sN m i + (e + 1) : Nat) : Int) = ((e + 1 : Nat) : Int) + (sN m i : Int) by omega, Int.add_mul]
    exact Int.le_refl _
  ·rename_i hm
   have e1:sN m (i+1) = sN m i:=by simp only [sN];omega
   rw [e1]
   exact h1
end
theorem sumTo_sN {m : Nat→Int} (hm:∀ i,i<8→0≤m i):∀ i,i≤8→sumTo m i = sN m i
 | 0,_=>rfl
 | i+1,hi=>by
  have h1:=hm i (by omega)
  have h2:=sumTo_sN hm i (by omega)
  show sumTo m i+m i = ((sN m i+(m i).toNat:Nat):Int)
  omega
def PmAt (f : Nat→Int) (i:Nat):Prop:=0≤f i∧f i<8∧∀ j,j<i→f j ≠ f i
def PmOk (f : Nat→Int):Prop:=∀ i,i<8→PmAt f i
theorem pmOk_or (f : Nat→Int):PmOk f∨∃ z,z<8∧(∀ i,i<z→PmAt f i)∧¬ PmAt f z:=by
 have key:∀ k,(∀ i,i<k→PmAt f i)∨∃ z,z<k∧(∀ i,i<z→PmAt f i)∧¬ PmAt f z:=by
  intro k
  induction k with
  | zero=>exact .inl fun i h=>absurd h (Nat.not_lt_zero i)
  | succ k ih =>
   rcases ih with h | ⟨z,h1,h2,h3⟩
   ·by_cases hk:PmAt f k
    ·refine .inl fun i hi=>?_
     rcases Nat.lt_or_ge i k with h' | h'
     ·exact h i h'
     ·obtain rfl : i = k := by omega
      exact hk
    ·exact .inr ⟨k,by omega,h,hk⟩
   ·exact .inr ⟨z,by omega,h2,h3⟩
 exact key 8
theorem pmAt_bad {f : Nat→Int} {z:Nat} (h:¬ PmAt f z):f z<0∨8≤f z∨(0≤f z∧f z<8∧∃ j,j<z∧f j = f z):=by
 by_cases h1:f z<0
 ·exact .inl h1
 ·by_cases h2:8≤f z
  ·exact .inr (.inl h2)
  ·refine .inr (.inr ⟨by omega, by omega, ?_⟩)
   exact Classical.byContradiction fun hn=>h ⟨by omega,by omega,fun j hj e=>hn ⟨j,hj,e⟩⟩
def seenF (f : Nat→Int) (k:Nat):Nat→Bool:=fun j=>(List.range k).any fun i=>decide ((f i).toNat = j)
theorem seenF_set (f : Nat→Int) (k:Nat):upF (seenF f k) (f k).toNat true = seenF f (k+1):=by
 funext j
 simp only [upF,seenF,List.range_succ,List.any_append,List.any_cons,List.any_nil,Bool.or_false]
 by_cases h:j = (f k).toNat
 ·rw [if_pos h,h];simp
 ·rw [if_neg h,decide_eq_false (fun e=>h e.symm),Bool.or_false]
theorem seenF_no {f : Nat→Int} {k:Nat} (h:∀ i,i<k→PmAt f i) (hk:PmAt f k):seenF f k (f k).toNat = false:=by
 simp only [seenF,List.any_eq_false,List.mem_range,decide_eq_true_eq]
 intro i hi e
 have h1:=(h i hi).1
 have h2:=hk.1
 exact hk.2.2 i hi (by omega)
theorem seenF_yes {f : Nat→Int} {k j:Nat} (hj:j<k) (e:f j = f k):seenF f k (f k).toNat = true:=by
 simp only [seenF,List.any_eq_true,List.mem_range,decide_eq_true_eq]
 exact ⟨j,hj,by rw [e]⟩
def movS (f : Nat→Int) (m:Nat→Int):Nat→(Nat→Int)
 | 0=>fun _=>0
 | k+1=>setM (movS f m k) (f k).toNat (m k)
theorem movE_succ (p : Nat→Nat) (m:Nat→Int) (k j:Nat):movE p m (k+1) j = movE p m k j+(if j = p k then m k else 0):=rfl
theorem movE_none {p : Nat→Nat} {m:Nat→Int} {j:Nat}:∀ {k},(∀ i,i<k→p i ≠ j)→movE p m k j = 0
 | 0,_=>rfl
 | k+1,h=>by
  rw [movE_succ,movE_none (k:=k) fun i hi=>h i (by omega),if_neg fun e=>h k (by omega) e.symm]
  rfl
theorem PmOk.inj {f : Nat→Int} (h:PmOk f) {i j:Nat} (hi:i<8) (hj:j<8) (e:(f i).toNat = (f j).toNat):i = j:=by
 have h1:=h i hi
 have h2:=h j hj
 rcases Nat.lt_trichotomy i j with hlt | hlt | hlt
 ·exact absurd (show f i = f j by have:=h1.1;have:=h2.1;omega) (h2.2.2 i hlt)
 ·exact hlt
 ·exact absurd (show f j = f i by have:=h1.1;have:=h2.1;omega) (h1.2.2 j hlt)
theorem movS_E {f : Nat→Int} (h:PmOk f) (m:Nat→Int):∀ k,k≤8→movS f m k = movE (fun i=>(f i).toNat) m k
 | 0,_=>rfl
 | k+1,hk=>by
  funext j
  rw [movS,movE_succ,movS_E h m k (by omega)]
  unfold setM
  by_cases e:j = (f k).toNat
  ·rw [if_pos e, if_pos e, e, movE_none fun i hi e' => by have := h.inj (i := i) (j := k) (by omega) (by omega) e'; omega]
   omega
  ·rw [if_neg e,if_neg e];omega
theorem movE_at {f : Nat→Int} (h:PmOk f) (m:Nat→Int) {i:Nat} (hi:i<8):∀ k,k≤8→i<k→movE (fun i=>(f i).toNat) m k (f i).toNat = m i
 | k+1,hk,hik=>by
  rw [movE_succ]
  by_cases e:i = k
  ·subst e
   rw [if_pos rfl,movE_none fun j hj e'=>by have:=h.inj (i:=j) (j:=i) (by omega) (by omega) e';omega]
   omega
  ·rw [if_neg fun e' => e (h.inj (i := i) (j := k) hi (by omega) e'), movE_at h m hi k (by omega) (by omega)]
   omega
theorem movS_at {f : Nat→Int} (h:PmOk f) (m:Nat→Int) {i:Nat} (hi:i<8):movS f m 8 (f i).toNat = m i:=by
 rw [movS_E h m 8 (by omega),movE_at h m hi 8 (by omega) hi]
theorem movS_eqv {f : Nat→Int} (h:PmOk f) {a b:Nat→Int} (e:Eqv (movS f a 8) (movS f b 8)):Eqv a b:=fun i hi=>by
 have h1:=h i hi
 have:=e (f i).toNat (by have:=h1.1;have:=h1.2.1;omega)
 rwa [movS_at h a hi,movS_at h b hi] at this
theorem movS_in {f : Nat→Int} {m:Nat→Int} {d:Int} (hm:In8 m 0 d) (h0:0≤d):∀ k,k≤8→In8 (movS f m k) 0 d
 | 0,_=>fun i _=>⟨Int.le_refl _,h0⟩
 | k+1,hk=>fun i hi=>by
  have h1:=movS_in (f:=f) hm h0 k (by omega) i hi
  simp only [movS,setM]
  split
  ·exact hm k (by omega)
  ·exact h1
def movL (f : Nat→Int) (P:List Tm):List Tm:=P.map fun t=>⟨t.c,movS f t.m 8⟩
theorem movL_take {f : Nat→Int} {P:List Tm} {k:Nat} (h:k<P.length):movL f (P.take (k+1)) = movL f (P.take k) ++ [⟨(tAt P k).c,movS f (tAt P k).m 8⟩]:=by
 rw [← take_tAt h];simp [movL]
theorem movL_new {f : Nat→Int} (hf:PmOk f) {P:List Tm} (hd:Dec P) {k:Nat} (h:k<P.length):∀ t∈movL f (P.take k),¬ Eqv (movS f (tAt P k).m 8) t.m:=fun t ht e=>by
 obtain ⟨s,hs,rfl⟩:=List.mem_map.1 ht
 have e:=movS_eqv hf e
 obtain ⟨j,hj,hs⟩:=List.mem_iff_getElem.1 hs
 rw [List.length_take] at hj
 rw [List.getElem_take] at hs
 have h1:0<lx s.m (tAt P k).m:=by
  have:=List.pairwise_iff_getElem.1 hd j k (by omega) h (by omega)
  rw [hs] at this
  simpa [tAt,List.getD_eq_getElem?_getD,List.getElem?_eq_getElem h] using this
 exact ne_of_lx h1 (Eqv.symm e)
theorem movL_sim {f : Nat→Int} (hf:PmOk f) {P:List Tm}:movL f P = P.map fun t=>⟨t.c,movE (fun i=>(f i).toNat) t.m 8⟩:=by
 simp only [movL,movS_E hf _ 8 (by omega)]
def rmovF (f : Nat→Int) (P:List Tm):List Tm:=P.foldl (fun a t=>mrg a [⟨t.c,movS f t.m 8⟩]) []
theorem rmov_take {f : Nat→Int} {P:List Tm} {k:Nat} (h:k<P.length):rmovF f (P.take (k+1)) = mrg (rmovF f (P.take k)) [⟨(tAt P k).c,movS f (tAt P k).m 8⟩]:=foldl_tAt (fun a t=>mrg a [⟨t.c,movS f t.m 8⟩]) [] h
theorem mov1_pb {f : Nat→Int} {P:List Tm} {n N:Nat} {d:Int} (hP:PB P n N d) (h0:0≤d) {t:Tm} (ht:t∈P):PB [⟨t.c,movS f t.m 8⟩] 1 N d:=PB.single (hP.can.2 t ht) (hP.sz t ht) (movS_in (hP.ex t ht) h0 8 (by omega))
theorem rmov_pb {f : Nat→Int} {P:List Tm} {n N:Nat} {d:Int} (hP:PB P n N d) (h0:0≤d):∀ k,k≤P.length→PB (rmovF f (P.take k)) k (k*(N+1)) d
 | 0,_=>PB.nil
 | k+1,hk=>by
  rw [rmov_take (by omega)]
  exact ((rmov_pb hP h0 k (by omega)).add (mov1_pb hP h0 (tAt_mem (show k<P.length by omega)))).mono (Nat.le_refl _) (by rw [Nat.succ_mul];omega) (by omega)
theorem rmov_pb' {f : Nat→Int} {P:List Tm} {n N:Nat} {d:Int} (hP:PB P n N d) (h0:0≤d):PB (rmovF f P) n (n*(N+1)) d:=by
 have:=rmov_pb (f:=f) hP h0 P.length (Nat.le_refl _)
 rw [List.take_length] at this
 exact this.mono hP.len (Nat.mul_le_mul_right _ hP.len) (Int.le_refl _)
theorem rmov_sim (f : Nat→Int) (P:List Tm):Sim (rmovF f P) (movL f P):=by
 have key:∀ (P A:List Tm),Sim (P.foldl (fun a t=>mrg a [⟨t.c,movS f t.m 8⟩]) A) (A ++ movL f P):=by
  intro P
  induction P with
  | nil=>intro A;simp [movL];exact Sim.refl _
  | cons t P ih =>
   intro A
   have e:movL f (t :: P) = [⟨t.c,movS f t.m 8⟩] ++ movL f P:=by simp [movL]
   rw [List.foldl_cons,e,← List.append_assoc]
   exact (ih _).trans ((mrg_sim _ _).append (Sim.refl _))
 exact key P []
def Back (f : Nat→Int) (g:Nat→Nat):Prop:=∀ i,i<8→(0≤f i∧f i<8∧g (f i).toNat = i)∧g i<8∧f (g i) = (i:Nat)
def tauS (i j:Nat):Nat→Nat:=fun k=>if k = j then i else if k = i then j else k
def swpM (f : Nat→Int) (i j:Nat):Nat→Int:=setM (setM f i (f j)) j (f i)
theorem swpM_tau (f : Nat→Int) (i j k:Nat):swpM f i j k = f (tauS i j k):=by
 unfold swpM setM tauS
 by_cases h1:k = j
 ·rw [if_pos h1,if_pos h1]
 ·rw [if_neg h1,if_neg h1]
  by_cases h2:k = i
  ·rw [if_pos h2,if_pos h2]
  ·rw [if_neg h2,if_neg h2]
theorem tau_tau (i j k:Nat):tauS i j (tauS i j k) = k:=by
 unfold tauS
 by_cases h1:k = j
 ·by_cases h2:i = j
  ·simp [h1,h2]
  ·simp [h1,h2]
 ·by_cases h2:k = i
  ·simp [h2]
  ·simp [h1,h2]
theorem tau_lt {i j:Nat} (hi:i<8) (hj:j<8) {k:Nat} (hk:k<8):tauS i j k<8:=by
 unfold tauS
 split
 ·exact hi
 ·split
  ·exact hj
  ·exact hk
theorem Back.swp {f : Nat→Int} {g:Nat→Nat} (h:Back f g) {i j:Nat} (hi:i<8) (hj:j<8):Back (swpM f i j) (fun k=>tauS i j (g k)):=fun k hk=>by
 have hk':=tau_lt hi hj hk
 obtain ⟨⟨h1,h2,h3⟩,-,-⟩:=h _ hk'
 obtain ⟨-,h4,h5⟩:=h k hk
 rw [swpM_tau]
 refine ⟨⟨h1,h2,?_⟩,tau_lt hi hj h4,?_⟩
 ·show tauS i j (g (f (tauS i j k)).toNat) = k
  rw [h3,tau_tau]
 ·show swpM f i j (tauS i j (g k)) = _
  rw [swpM_tau,tau_tau,h5]
theorem Back.ok {f : Nat→Int} {g:Nat→Nat} (h:Back f g):PmOk f:=fun i hi=>by
 obtain ⟨⟨h1,h2,h3⟩,-,-⟩:=h i hi
 refine ⟨h1,h2,fun j hj e=>?_⟩
 obtain ⟨⟨-,-,h4⟩,-,-⟩:=h j (by omega)
 rw [e,h3] at h4
 omega
def idF : Nat→Int:=fun i=>([0,1,2,3,4,5,6,7]:List Int).getD i 0
theorem back_id : Back idF fun k=>k:=fun i hi=>by
 match i,hi with
 | 0,_=>decide
 | 1,_=>decide
 | 2,_=>decide
 | 3,_=>decide
 | 4,_=>decide
 | 5,_=>decide
 | 6,_=>decide
 | 7,_=>decide
def prmF (z : Nat):Nat→Nat × (Nat→Int)
 | 0=>(z,idF)
 | i+1=>((prmF z i).1 / (4 - i),swpM (prmF z i).2 i (i+(prmF z i).1 % (4 - i)))
theorem prmF_left (z : Nat):∀ i,(prmF z i).1≤z
 | 0=>Nat.le_refl _
 | i+1=>Nat.le_trans (Nat.div_le_self _ _) (prmF_left z i)
theorem prmF_back (z : Nat):∀ i,i≤4→∃ g,Back (prmF z i).2 g
 | 0,_=>⟨_,back_id⟩
 | i+1,hi=>by
  obtain ⟨g,hg⟩:=prmF_back z i (by omega)
  have h1:=Nat.mod_lt (prmF z i).1 (show 0<4 - i by omega)
  exact ⟨_,hg.swp (by omega) (by omega)⟩
def backS (f : Nat→Int):Nat→(Nat→Int)
 | 0=>f
 | k+1=>setM (backS f k) (f k).toNat (k:Nat)
theorem backS_at {f : Nat→Int} {g:Nat→Nat} (h:Back f g) {j:Nat} (hj:j<8):∀ k,k≤8→g j<k→backS f k j = (g j:Nat)
 | k+1,hk,hg=>by
  obtain ⟨-,h1,h2⟩:=h j hj
  simp only [backS,setM]
  by_cases e:j = (f k).toNat
  ·obtain ⟨⟨h3, h4, h5⟩, -, -⟩ := h k (by omega)
   rw [if_pos e]
   have:g j = k:=by rw [e,h5]
   omega
  ·rw [if_neg e]
   refine backS_at h hj k (by omega) ?_
   rcases Nat.lt_or_ge (g j) k with h' | h'
   ·exact h'
   ·exfalso
    have:g j = k:=by omega
    rw [this] at h2
    exact e (by omega)
theorem backS_8 {f : Nat→Int} {g:Nat→Nat} (h:Back f g) {j:Nat} (hj:j<8):backS f 8 j = (g j:Nat):=backS_at h hj 8 (by omega) (h j hj).2.1
theorem backS_ok {f : Nat→Int} {g:Nat→Nat} (h:Back f g):PmOk (backS f 8):=fun i hi=>by
 obtain ⟨-,h1,h2⟩:=h i hi
 rw [PmAt,backS_8 h hi]
 refine ⟨by omega,by omega,fun j hj e=>?_⟩
 obtain ⟨-,h3,h4⟩:=h j (by omega)
 rw [backS_8 h (by omega)] at e
 have e:g j = g i:=by omega
 rw [e,h2] at h4
 omega
theorem movS_back {f : Nat→Int} {g:Nat→Nat} (h:Back f g) (m:Nat→Int):Eqv (movS (backS f 8) (movS f m 8) 8) m:=fun j hj=>by
 obtain ⟨⟨h1,h2,h3⟩,-,-⟩:=h j hj
 have hj':(f j).toNat<8:=by omega
 have h4:=movS_at (backS_ok h) (movS f m 8) hj'
 rw [backS_8 h hj',h3,movS_at h.ok m hj] at h4
 simpa using h4
theorem rmov_back {f : Nat→Int} {g:Nat→Nat} (h:Back f g) (P:List Tm):Sim (rmovF (backS f 8) (rmovF f P)) P:=by
 have h1:∀ {A B:List Tm} (f:Nat→Int),(∀ a b,Eqv a b→Eqv (movS f a 8) (movS f b 8))→Sim A B→Sim (movL f A) (movL f B):=fun {A B} f hr hs F hF=>by
  have key:∀ L:List Tm,dot F (movL f L) = dot (fun m=>F (movS f m 8)) L:=fun L=>by
   induction L with
   | nil=>rfl
   | cons t L ih=>simp only [movL,List.map_cons,dot] at ih ⊢;rw [ih]
  rw [key,key]
  exact hs _ fun a b e=>hF _ _ (hr a b e)
 have hr:∀ (f:Nat→Int) (a b:Nat→Int),Eqv a b→Eqv (movS f a 8) (movS f b 8):=fun f a b e=>by
  have key:∀ k,k≤8→movS f a k = movS f b k:=by
   intro k
   induction k with
   | zero=>intro _;rfl
   | succ k ih=>intro hk;simp only [movS];rw [ih (by omega),e k (by omega)]
  rw [key 8 (by omega)]
  exact Eqv.refl _
 refine (rmov_sim _ _).trans ((h1 _ (hr _) (rmov_sim f P)).trans ?_)
 intro F hF
 have:∀ L:List Tm,dot F (movL (backS f 8) (movL f L)) = dot F L:=fun L=>by
  induction L with
  | nil=>rfl
  | cons t L ih =>
   simp only [movL,List.map_cons,dot] at ih ⊢
   rw [ih,hF _ _ (movS_back h t.m)]
 exact this P
theorem powers1_con (B : Nat→List Tm) (l:Nat→Nat) (i:Nat) (hi:i<4) (z:Int) (e E n N L M:Nat) (d0 d:Int) (hz:z = (e:Int)) (hP:PB (B i) n N d0) (hb:∀ k,k<E→PB (pw (B i) k) L M d) (h0:0≤d0) (h0':0≤d) (hd:d+d0≤65535) (hn:L*n≤100000) (hN:M+N+1≤10000000) (he0:0<e) (he:e≤E) (hl:l i≤E) (hE:E≤1000) :
  Con Tryz.prog 149 [.d (ex (.int .i64 (i:Nat))),.d (ex (.int .i64 z)),.ptr 0 0,.ptr 1 0] (tabH B l) [2,3,4,5,6,7,8,9] (fun r hp'=>∃ n',n'≤E∧r = .d (polD (pw (B i) (z.toNat - 1)))∧hp' = tabHt B (upF l i n') [.dead]):=by
 subst hz
 rw [show ((e:Int)).toNat = e by omega]
 match i,hi with
 | 0,_=>exact powers1_0 B l e E n N L M d0 d hP hb h0 h0' hd hn hN he0 he hl hE
 | 1,_=>exact powers1_1 B l e E n N L M d0 d hP hb h0 h0' hd hn hN he0 he hl hE
 | 2,_=>exact powers1_2 B l e E n N L M d0 d hP hb h0 h0' hd hn hN he0 he hl hE
 | 3,_=>exact powers1_3 B l e E n N L M d0 d hP hb h0 h0' hd hn hN he0 he hl hE
def VanB (B : Nat→List Tm) (m:Nat→Int):Prop:=∃ i,i<8∧0<m i∧B i = []
theorem van_least {B : Nat→List Tm} {m:Nat→Int} (h:VanB B m):∃ z,z<8∧0<m z∧B z = []∧∀ i,i<z→0<m i→0<(B i).length:=by
 obtain ⟨i,h1,h2,h3⟩:=h
 induction i using Nat.strongRecOn with
 | _ i ih =>
  by_cases hx:∃ j,j<i∧0<m j∧B j = []
  ·obtain ⟨j,h4,h5,h6⟩:=hx
   exact ih j h4 (by omega) h5 h6
  ·refine ⟨i,h1,h2,h3,fun j hj hm=>?_⟩
   rcases Nat.eq_zero_or_pos (B j).length with h | h
   ·exact absurd ⟨j,hj,hm,List.eq_nil_of_length_eq_zero h⟩ hx
   ·exact h
theorem van_no {B : Nat→List Tm} {m:Nat→Int} (h:¬ VanB B m):∀ i,i<8→0<m i→0<(B i).length:=fun i hi hm=>by
 rcases Nat.eq_zero_or_pos (B i).length with h1 | h1
 ·exact absurd ⟨i,hi,hm,List.eq_nil_of_length_eq_zero h1⟩ h
 ·exact h1
theorem van_abs (m : Nat→Int) (B:Nat→List Tm) (hB:∀ i,i<8→(B i).length≤100000):∃ b:Bool,(b = true↔VanB B m)∧Abs Tryz.prog 111 [agD (monC m),agD (pol8 B)] (ex (.bool b))∧Abs Tryz.prog 114 [agD (monC m),agD (pol8 B)] (ex (.bool b)):=by
 by_cases h:VanB B m
 ·obtain ⟨z,h1,h2,h3,h4⟩:=van_least h
  exact ⟨true,by simp [h],vanT_abs m B z h1 hB h4 h2 h3,RvanT_abs m B z h1 hB h4 h2 h3⟩
 ·exact ⟨false,by simp [h],vanF_abs m B hB (van_no h),RvanF_abs m B hB (van_no h)⟩
def subTo (B : Nat→List Tm) (P:List Tm) (k:Nat):List Tm:=substL B (P.take k)
theorem subTo_succ (B : Nat→List Tm) {P:List Tm} {k:Nat} (h:k<P.length):subTo B P (k+1) = subTo B P k ++ trmL (tAt P k).c B (tAt P k).m 8:=by
 have:P.take (k+1) = P.take k ++ [tAt P k]:=by
  rw [List.take_succ_eq_append_getElem h]
  simp [tAt,List.getD_eq_getElem?_getD,List.getElem?_eq_getElem h]
 unfold subTo
 rw [this,substL_append]
 simp [substL]
theorem Colld.more {E G:List Tm} {n n' D:Nat} {hi:Int} (h:Colld E G n D hi) (hn:n≤n'):Colld E G n' D hi:=⟨h.sim,Nat.le_trans h.len hn,h.sz.mono (Nat.mul_le_mul_right D hn),h.in_⟩
theorem Colld.simR {E G G':List Tm} {n D:Nat} {hi:Int} (h:Colld E G n D hi) (hs:Sim G G'):Colld E G' n D hi:=⟨h.sim.trans hs,h.len,h.sz,h.in_⟩
def bnd8 (B : Nat→List Tm) (k:Nat):Nat→Nat→Int:=fun i=>if i<k then degV (B i) else fun _=>0
theorem bnd8_set (B : Nat→List Tm) (k:Nat):row8 (upF (bnd8 B k) k (degV (B k))) = row8 (bnd8 B (k+1)):=row8_rows fun i _=>by
 simp only [upF,bnd8]
 by_cases h1:i = k
 ·subst h1;rw [if_pos rfl,if_pos (by omega)]
 ·rw [if_neg h1]
  by_cases h2:i<k
  ·rw [if_pos h2,if_pos (by omega)]
  ·rw [if_neg h2,if_neg (by omega)]
def vanB (B : Nat→List Tm) (m:Nat→Int):Bool:=(List.range 8).any fun i=>decide (0<m i) && (B i).isEmpty
theorem vanB_iff {B : Nat→List Tm} {m:Nat→Int}:vanB B m = true↔VanB B m:=by
 simp [vanB,VanB,List.isEmpty_iff]
def rpw (R P:List Tm):Nat→List Tm
 | 0=>R
 | j+1=>pmul (rpw R P j) P
def rtL (c : Rat) (B:Nat→List Tm) (m:Nat→Int):Nat→List Tm
 | 0=>constL c
 | i+1=>rpw (rtL c B m i) (B i) (m i).toNat
theorem rpw_sim {R R':List Tm} (P:List Tm) (h:Sim R R'):∀ j,Sim (rpw R P j) (mulL R' (pwL P j))
 | 0=>h.trans (mulL_one _).symm
 | j+1=>(pmul_sim _ _).trans (((rpw_sim P h j).mul (Sim.refl P)).trans (mulL_assoc _ _ _))
theorem rtL_sim (c : Rat) (B:Nat→List Tm) (m:Nat→Int):∀ i,Sim (rtL c B m i) (scl c (mp B m i))
 | 0=>constL_scl c
 | i+1=>(rpw_sim (B i) (rtL_sim c B m i) _).trans (mulL_scl _ _ _)
section
variable {B : Nat→List Tm} {t w:Nat} {d:Int} {K D:Nat} {U M:Nat→Nat} (h:SubB B t w d K D U M)
include h
theorem SubB.rpw1 {R : List Tm} {a i:Nat} (hi:i<8) (hR:PB R (t ^ a) (U a) ((a:Int)*d)):∀ j,a+j≤D→PB (rpw R (B i) j) (t ^ (a+j)) (U (a+j)) (((a+j:Nat):Int)*d)
 | 0,_=>hR
 | j+1,hj=>by
  have h1:=SubB.rpw1 hi hR j (by omega)
  have h2:=h.hU (a+j) (by omega) 1 (by omega) (by omega) (by omega)
  refine (h1.mulS (h.hB i hi) (h.d1 _) h.d0).mono (by rw [← Nat.add_assoc,Nat.pow_succ,Nat.mul_comm];exact Nat.le_refl _) (Nat.le_trans ?_ h2) ?_
  ·rw [Nat.pow_one]
   exact Nat.mul_le_mul_left t (by have:=h.M1;omega)
  ·rw [show ((a + (j + 1) : Nat) : Int) = ((a + j : Nat) : Int) + 1 by omega, Int.add_mul]
   omega
theorem SubB.rt {c : Rat} (hc:RSz c K) {m:Nat→Int}:∀ i,i≤8→sN m i≤D→PB (rtL c B m i) (t ^ sN m i) (U (sN m i)) ((sN m i:Int)*d)
 | 0,_,_=>(constL_pb hc (d:=0) (by omega)).mono (by simp [sN]) h.U0 (by simp [sN])
 | i+1,hi,hs=>by
  have hs':sN m i+(m i).toNat≤D:=hs
  exact h.rpw1 (by omega) (SubB.rt hc i (by omega) (by omega)) _ hs'
end
def rsubF (B : Nat→List Tm) (P:List Tm):List Tm:=P.foldl (fun a t=>if vanB B t.m = true then a else mrg a (rtL t.c B t.m 8)) []
theorem rsub_take {B : Nat→List Tm} {P:List Tm} {k:Nat} (h:k<P.length):rsubF B (P.take (k+1)) = if vanB B (tAt P k).m = true then rsubF B (P.take k) else mrg (rsubF B (P.take k)) (rtL (tAt P k).c B (tAt P k).m 8):=foldl_tAt (fun a t=>if vanB B t.m = true then a else mrg a (rtL t.c B t.m 8)) [] h
theorem rsub_pb {B : Nat→List Tm} {t w:Nat} {d:Int} {K D:Nat} {U M:Nat→Nat} (h:SubB B t w d K D U M) (hUm:∀ a,a≤D→U a≤U D) {P:List Tm} (hP:PSz P K) (hs:∀ t∈P,sN t.m 8≤D):∀ k,k≤P.length→PB (rsubF B (P.take k)) (k*t ^ D) (k*(U D+1)) ((D:Int)*d)
 | 0,_=>PB.nil
 | k+1,hk=>by
  have h1:=rsub_pb h hUm hP hs k (by omega)
  have hm:=tAt_mem (show k<P.length by omega)
  rw [rsub_take (by omega)]
  split
  ·exact h1.mono (Nat.mul_le_mul_right _ (by omega)) (Nat.mul_le_mul_right _ (by omega)) (Int.le_refl _)
  ·have h2 := h.rt (hP _ hm) 8 (by omega) (hs _ hm)
   have h3:t ^ sN (tAt P k).m 8≤t ^ D:=Nat.pow_le_pow_right h.t0 (hs _ hm)
   have h4:=hUm _ (hs _ hm)
   have h5:(sN (tAt P k).m 8:Int)*d≤(D:Int)*d:=Int.mul_le_mul_of_nonneg_right (by have:=hs _ hm;omega) h.d0
   refine (h1.add (h2.mono h3 h4 h5)).mono (by rw [Nat.succ_mul];exact Nat.le_refl _) (by rw [Nat.succ_mul];omega) (by omega)
theorem rsub_sim (B : Nat→List Tm) (P:List Tm):Sim (rsubF B P) (substL B P):=by
 have key:∀ (P A:List Tm),Sim (P.foldl (fun a t=>if vanB B t.m = true then a else mrg a (rtL t.c B t.m 8)) A) (A ++ substL B P):=by
  intro P
  induction P with
  | nil=>intro A;simp [substL];exact Sim.refl _
  | cons t P ih =>
   intro A
   have e:substL B (t :: P) = trmL t.c B t.m 8 ++ substL B P:=by simp [substL]
   rw [List.foldl_cons,e,← List.append_assoc]
   refine (ih _).trans ((?_:Sim _ _).append (Sim.refl _))
   split
   ·rename_i hv
    obtain ⟨z,h1,h2,h3⟩:=vanB_iff.1 hv
    have:=(Sim.refl A).append (trmL_zero t.c h1 h2 h3).symm
    simpa using this
   ·exact (mrg_sim _ _).trans ((Sim.refl A).append ((rtL_sim t.c B t.m 8).trans (trmL_sim t.c B t.m 8).symm))
 exact key P []
abbrev subH (B : Nat→List Tm) (l:Nat→Nat) (E:List Tm) (z:List Ow):List Ow:=.var 77 ((pol8 B).map .d) :: .dead :: .dead :: .var 77 ((pol8 B).map .d) :: .var 144 [.own 5,.own 6,.own 7,.own 8,.own 9,.own 10,.own 11,.own 12] :: .row 23 1 (rowP (powL (B 0) (l 0))) :: .row 23 1 (rowP (powL (B 1) (l 1))) :: .row 23 1 (rowP (powL (B 2) (l 2))) :: .row 23 1 (rowP (powL (B 3) (l 3))) :: .row 23 1 (rowP (powL (B 4) (l 4))) :: .row 23 1 (rowP (powL (B 5) (l 5))) :: .row 23 1 (rowP (powL (B 6) (l 6))) :: .row 23 1 (rowP (powL (B 7) (l 7))) :: .obj (mapO (entD E)) :: z
theorem PSubst_abs (P : List Tm) {B:Nat→List Tm} {t w:Nat} {d:Int} {K Dg:Nat} {U M:Nat→Nat} (h:SubB B t w d K Dg U M) (hUm:∀ a,a≤Dg→U a≤U Dg) {n:Nat} {dp:Int} (hP:PB P n K dp) (hdp:dp≤65535) (hs:∀ t∈P,sN t.m 8≤Dg) (hV:∀ t∈P,∀ i,4≤i→i<8→t.m i = 0) (hD:Dg≤64) (ht1:t≤100000) (hdeg:degL P≤64) (hnn:n*t ^ Dg≤100000) (hUD:U Dg+1≤10000000) (hd1:(Dg:Int)*d+d≤65535) (hMm:∀ e,e≤Dg→M e≤M Dg) (hMD:M Dg+w+1≤10000000) (htD:t ^ Dg*t≤100000) :
  Abs Tryz.prog 45 [polD P,agD (pol8 B)] (tupD [polD (rsubF B P),ex (.int .i64 0)]):=by
 have hl:=hP.len
 have hnl:n≤100000:=Nat.le_trans (Nat.le_mul_of_pos_right n (Nat.pow_pos h.t0)) hnn
 have cdeg:=PDeg_abs P (hP.ex.mono (Int.le_refl _) hdp) (by omega)
 have hBl:∀ i,i<8→(B i).length≤100000:=fun i hi=>Nat.le_trans (h.hB i hi).len ht1
 have hrow:∀ i,i<8→In8 (bnd8 B 8 i) 0 d:=fun i hi=>by
  simp only [bnd8,if_pos hi]
  exact degV_in (h.hB i hi).ex h.d0
 have cbig:∀ k,k<P.length→Abs Tryz.prog 112 [agD (monC (tAt P k).m),agD (row8 (bnd8 B 8))] (ex (.bool false)):=fun k hk=>by
  have hm:=hP.ex (tAt P k) (tAt_mem hk)
  have hm0:∀ i,i<8→0≤(tAt P k).m i:=fun i hi=>(hm i hi).1
  have hsk:=hs (tAt P k) (tAt_mem hk)
  have key:∀ j,j<8→∀ i,i≤8→0≤bigS (tAt P k).m (bnd8 B 8) j i∧bigS (tAt P k).m (bnd8 B 8) j i≤65535:=fun j hj i hi=>by
   have h1:=bigS_le (m:=(tAt P k).m) (b:=bnd8 B 8) (k:=j) (d:=d) hm0 (fun i hi=>hrow i hi j hj) i hi
   rw [sumTo_sN hm0 i hi] at h1
   have h2:=h.dN (a:=sN (tAt P k).m i) (Nat.le_trans (sN_mono hi) hsk)
   omega
  refine tooBigF_abs _ _ (fun i hi=>?_) (fun i hi j hj=>?_) (fun j hj i hi=>?_) fun j hj=>(key j hj 8 (by omega)).2
  ·have:=hm i hi;omega
  ·have:=hrow i hi j hj;have:=h.d1 Dg;omega
  ·have:=key j hj i hi;omega
 refine Ab Tryz.func45 fun s0=>?_
 rw [Tryz.ntmps45]
 apply Y1;refine AWs.bx (ao rfl) rfl rfl rfl rfl ?_;refine Wa ?_;refine Wa ?_;apply Y0;apply AWp.seq;apply Y1;refine Wm ?_;refine Wq (Qz.call (cdeg)) ?_;refine Wq Qz.cmpF ?_;apply Y0;refine Cf ?_;apply Ys;apply Y1;refine AWs.al (tab_of rfl) rfl rfl rfl rfl rfl rfl ?_;apply Y0;apply AWp.seq;apply Y1;refine Wm ?_;apply Y0;apply AWp.block
 refine AWp.loop (fun mz σ=>∃ k,k≤8∧mz = 8 - k∧σ = ⟨[(0,.d (polD P)),(3,.ptr 0 0),(6,.ptr 1 0),(22,.d (ex (.int .i64 (k:Nat))))],[.var 77 ((pol8 B).map .d),.var 120 ((row8 (bnd8 B k)).map .d)]⟩) ?le ⟨0,by omega,rfl,rfl⟩ ?round
 case le=>exact AS.le_of (by refine Yd ?_;refine Yp ?_;refine Yp ?_;refine Yd ?_;exact FrLe.nil) (by apply Yv;apply Yv;exact HpLe.nil)
 case round =>
  rintro mz _ ⟨k,hk,rfl,rfl⟩
  by_cases hlt:k<8
  ·have hk:=hBl k hlt
   have hset:=bnd8_set B k
   apply Y1;refine Wq Qz.cmpT ?_;apply Y0;apply AWp.seq;refine Ct ?_;apply Ys;apply AWp.seq;apply AWp.block;apply Y1;refine Wm ?_;refine Wa ?_;apply Y0;apply AWp.region;refine Wm ?_;refine Wm ?_;refine Wq Qz.ixP ?_;(refine AWs.q rfl rfl ?_;refine ⟨_,Qs.ldX1 (ao rfl) rfl (tab_of rfl) rfl (CellAt.p8 (by omega)),?_⟩);refine Wq (Qz.call (degs_abs (B k) (by omega))) ?_;refine Wq Qz.ixP ?_;refine AWs.stX (ao rfl) (ao rfl) rfl (tab_of rfl) rfl (SetAt.r8 (by omega)) rfl ?_;apply AWl.nil;apply ABlock.normal;apply Yn;apply AWp.region;refine Wq Qz.succ ?_;refine Wm ?_;apply AWl.nil
   refine ALoop.next (8 - (k+1)) (by omega) ⟨k+1,by omega,rfl,rfl⟩ ?_
   exact AS.le_of (by refine Yd ?_;refine Yp ?_;refine Yp ?_;refine Yd ?_;exact FrLe.nil) (by apply Yv;refine HpLe.cons (OwLe.varD hset) ?_;exact HpLe.nil)
  ·obtain rfl : k = 8 := by omega
   apply Y1;refine Wq Qz.cmpF ?_;apply Y0;apply AWp.seq;refine Cf ?_;apply AWp.exit;apply AThen.exit;apply ALoop.exit;apply ABlock.hit;apply Yn;apply AWp.seq;apply Y1;refine Wm ?_;refine Wq Qz.lenN ?_;refine Wm ?_;apply Y0;apply AWp.block
   refine AWp.loop (fun mz σ=>∃ k,k≤P.length∧mz = P.length - k∧σ = ⟨[(0,.d (polD P)),(3,.ptr 0 0),(6,.ptr 1 0),(32,.d (polD P)),(33,.d (ex (.int .i64 (P.length:Nat)))),(34,.d (ex (.int .i64 (k:Nat))))],[.var 77 ((pol8 B).map .d),.var 120 ((row8 (bnd8 B 8)).map .d)]⟩) ?le ⟨0,by omega,rfl,rfl⟩ ?round
   case le=>exact AS.le_of (by refine Yd ?_;refine Yp ?_;refine Yp ?_;refine Yd ?_;refine Yd ?_;refine Yd ?_;exact FrLe.nil) (by apply Yv;apply Yv;exact HpLe.nil)
   case round =>
    rintro mz _ ⟨k,hk,rfl,rfl⟩
    by_cases hlt:k<P.length
    ·obtain ⟨b,hb,cv,-⟩:=van_abs (tAt P k).m B hBl
     have cb:=cbig k hlt
     cases b with
     | true =>
      apply Y1;refine Wq Qz.cmpT ?_;apply Y0;apply AWp.seq;refine Ct ?_;apply Ys;apply AWp.seq;apply AWp.block;apply Y1;refine Wq Qz.indexN ?_;refine Wq Qz.loadEf ?_;refine AWs.al (tab_of rfl) rfl rfl rfl rfl rfl rfl ?_;refine Sf ?_;apply Y0;apply Y1;refine Wq Qz.fldP ?_;refine Wq Qz.ldD ?_;refine Wq Qz.ldD ?_;refine Wq (Qz.call (cv)) ?_;refine Wq Qz.not ?_;refine Wm ?_;refine Ws ?_;refine Ws ?_;refine Ws ?_;refine Ws ?_;refine Wq Qz.pickF ?_;apply Y0;refine Cf ?_;apply AWp.skip;apply ABlock.normal;apply Yn;apply AWp.region;refine Wq Qz.succ ?_;refine Wm ?_;apply AWl.nil
      refine ALoop.next (P.length - (k+1)) (by omega) ⟨k+1,by omega,rfl,rfl⟩ ?_
      exact AS.le_of (by refine Yd ?_;refine Yp ?_;refine Yp ?_;refine Yd ?_;refine Yd ?_;refine Yd ?_;exact FrLe.nil) (by apply Yv;apply Yv;exact HpLe.nil)
     | false =>
      apply Y1;refine Wq Qz.cmpT ?_;apply Y0;apply AWp.seq;refine Ct ?_;apply Ys;apply AWp.seq;apply AWp.block;apply Y1;refine Wq Qz.indexN ?_;refine Wq Qz.loadEf ?_;refine AWs.al (tab_of rfl) rfl rfl rfl rfl rfl rfl ?_;refine Sf ?_;apply Y0;apply Y1;refine Wq Qz.fldP ?_;refine Wq Qz.ldD ?_;refine Wq Qz.ldD ?_;refine Wq (Qz.call (cv)) ?_;refine Wq Qz.not ?_;refine Wm ?_;refine Wg Qz.fldP ?_;refine Wg Qz.ldD ?_;refine Wg Qz.ldD ?_;refine Wg (Qz.call (cb)) ?_;refine Wq Qz.pickT ?_;apply Y0;refine Cf ?_;apply AWp.skip;apply ABlock.normal;apply Yn;apply AWp.region;refine Wq Qz.succ ?_;refine Wm ?_;apply AWl.nil
      refine ALoop.next (P.length - (k+1)) (by omega) ⟨k+1,by omega,rfl,rfl⟩ ?_
      exact AS.le_of (by refine Yd ?_;refine Yp ?_;refine Yp ?_;refine Yd ?_;refine Yd ?_;refine Yd ?_;exact FrLe.nil) (by apply Yv;apply Yv;exact HpLe.nil)
    ·obtain rfl : k = P.length := by omega
     apply Y1;refine Wq Qz.cmpF ?_;apply Y0;apply AWp.seq;refine Cf ?_;apply AWp.exit;apply AThen.exit;apply ALoop.exit;apply ABlock.hit;apply Yn;apply Y1;refine Wq Qz.ldD ?_
     refine AWs.con [] [] (powers_con B) (by first | exact Or.inl rfl | exact Or.inr ⟨by decide,rfl,by repeat (first | exact AvoidR.nil | refine AvoidR.give rfl ?_ | refine AvoidR.dead ?_ | refine AvoidR.row ?_ | refine AvoidR.obj ?_ | refine AvoidR.varD ?_ | refine AvoidR.varA rfl ?_ | refine AvoidR.pin rfl ?_)⟩) rfl rfl (by first | exact .inl ⟨rfl,rfl⟩ | exact .inr ⟨rfl,rfl⟩) (by repeat (first | exact ArgsC.nil | refine ArgsC.d rfl (D.le.refl _) ?_ | refine ArgsC.av rfl rfl ?_)) (by decide) (by repeat (first | exact SelR.nil | refine SelR.var rfl ?_ | refine SelR.obj rfl ?_ | refine SelR.row rfl ?_ | refine SelR.varA rfl rfl rfl ?_)) (by repeat (first | exact trivial | refine ⟨⟨_,_,rfl⟩,?_⟩)) rfl ?_
     rintro _ _ ⟨rfl,rfl⟩
     refine ⟨_,_,_,(by first | exact AVRen.d | exact AVRen.own rfl | exact AVRen.ptr rfl | exact AVRen.fn rfl),(by repeat (first | exact SetR.nil | (apply SetR.cons;(first | exact OwRen.dead | exact OwRen.varD | exact OwRen.obj | exact OwRen.row | exact OwRen.varA rfl);exact rfl))),(by repeat (first | exact AppR.nil | (apply AppR.cons;(first | exact OwRen.dead | exact OwRen.varD | exact OwRen.obj | exact OwRen.row | exact OwRen.varA rfl);exact rfl))),?_⟩
     refine Wa ?_;apply Y0;apply Y1;refine AWs.mnew rfl rfl rfl ?_;refine Wa ?_;apply Y0;apply AWp.seq;apply Y1;refine Wm ?_;refine Wq Qz.lenN ?_;refine Wm ?_;apply Y0;apply AWp.block
     refine AWp.loop (fun mz σ=>∃ k E l,k≤P.length∧Colld E (subTo B P k) (k*t ^ Dg) (U Dg+1) ((Dg:Int)*d)∧(∀ i,l i≤Dg)∧mz = P.length - k∧σ = ⟨[(0,.d (polD P)),(3,.ptr 0 0),(10,.fn 149 [4,3]),(11,.own 13),(53,.d (polD P)),(54,.d (ex (.int .i64 (P.length:Nat)))),(55,.d (ex (.int .i64 (k:Nat))))],subH B l E []⟩) ?lea ⟨0,[],fun _=>0,by omega,by rw [Nat.zero_mul];exact Colld.nil _ _,fun _=>Nat.zero_le _,rfl,rfl⟩ ?rounda
     case lea=>exact AS.le_of (by refine Yd ?_;refine Yp ?_;refine FrLe.cons rfl (AVle.fn rfl) ?_;refine FrLe.cons rfl (AVle.own rfl) ?_;refine Yd ?_;refine Yd ?_;refine Yd ?_;exact FrLe.nil) (by apply Yv;refine HpLe.cons (OwLe.dead) ?_;refine HpLe.cons (OwLe.dead) ?_;apply Yv;refine HpLe.cons (OwLe.varB rfl) ?_;apply Yr;apply Yr;apply Yr;apply Yr;apply Yr;apply Yr;apply Yr;apply Yr;refine HpLe.cons (OwLe.obj rfl) ?_;exact HpLe.nil)
     case rounda =>
      rintro mz _ ⟨k,E,l,hk,hC,hlD,rfl,rfl⟩
      by_cases hlt:k<P.length
      ·obtain ⟨b,hb,cv,-⟩:=van_abs (tAt P k).m B hBl
       have hmem:=tAt_mem hlt
       have hsk:=hs (tAt P k) hmem
       have hsub:=subTo_succ B hlt
       cases b with
       | true =>
        obtain ⟨z,hz1,hz2,hz3⟩:=hb.1 rfl
        apply Y1;refine Wq Qz.cmpT ?_;apply Y0;apply AWp.seq;refine Ct ?_;apply Ys;apply AWp.seq;apply AWp.block;apply Y1;refine Wq Qz.indexN ?_;refine Wq Qz.loadEf ?_;refine AWs.al (tab_of rfl) rfl rfl rfl rfl rfl rfl ?_;refine Sf ?_;apply Y0;apply AWp.seq;apply Y1;refine Wq Qz.fldP ?_;refine Wq Qz.ldD ?_;refine Wq Qz.ldD ?_;refine Wq (Qz.call (cv)) ?_;apply Y0;refine Ct ?_;apply AWp.exit;apply AThen.exit;apply ABlock.hit;apply Yn;apply AWp.region;refine Wq Qz.succ ?_;refine Wm ?_;apply AWl.nil
        refine ALoop.next (P.length - (k+1)) (by omega) ⟨k+1,E,l,by omega,(hC.simR ?_).more (Nat.mul_le_mul_right _ (by omega)),hlD,rfl,rfl⟩ ?_
        ·rw [hsub]
         have:=(Sim.refl (subTo B P k)).append (trmL_zero (tAt P k).c hz1 hz2 hz3).symm
         simpa using this
        exact AS.le_of (by refine Yd ?_;refine Yp ?_;refine FrLe.cons rfl (AVle.fn rfl) ?_;refine FrLe.cons rfl (AVle.own rfl) ?_;refine Yd ?_;refine Yd ?_;refine Yd ?_;exact FrLe.nil) (by apply Yv;refine HpLe.cons (OwLe.dead) ?_;refine HpLe.cons (OwLe.dead) ?_;apply Yv;refine HpLe.cons (OwLe.varB rfl) ?_;apply Yr;apply Yr;apply Yr;apply Yr;apply Yr;apply Yr;apply Yr;apply Yr;refine HpLe.cons (OwLe.obj rfl) ?_;exact HpLe.nil)
       | false =>
        have hmm:=hP.ex (tAt P k) hmem
        have hcz:=hP.sz (tAt P k) hmem
        apply Y1;refine Wq Qz.cmpT ?_;apply Y0;apply AWp.seq;refine Ct ?_;apply Ys;apply AWp.seq;apply AWp.block;apply Y1;refine Wq Qz.indexN ?_;refine Wq Qz.loadEf ?_;refine AWs.al (tab_of rfl) rfl rfl rfl rfl rfl rfl ?_;refine Sf ?_;apply Y0;apply AWp.seq;apply Y1;refine Wq Qz.fldP ?_;refine Wq Qz.ldD ?_;refine Wq Qz.ldD ?_;refine Wq (Qz.call (cv)) ?_;apply Y0;refine Cf ?_;apply Ys;apply Y1;refine Wq Qz.fldP ?_;refine Wq Qz.ldD ?_;refine Wq (Qz.call (PConst_abs (tAt P k).c)) ?_;refine Wa ?_;apply Y0;apply AWp.seq;apply Y1;refine Wq Qz.fldP ?_;refine Wq Qz.ldD ?_;refine Wm ?_;apply Y0;apply AWp.block
        refine AWp.loop (fun mz σ=>∃ i l,i≤8∧(∀ i,l i≤Dg)∧mz = 8 - i∧σ = ⟨[(0,.d (polD P)),(3,.ptr 0 0),(10,.fn 149 [4,3]),(11,.own 13),(13,.ptr 14 0),(14,.d (polD (trmL (tAt P k).c B (tAt P k).m i))),(53,.d (polD P)),(54,.d (ex (.int .i64 (P.length:Nat)))),(55,.d (ex (.int .i64 (k:Nat)))),(67,.d (agD (monC (tAt P k).m))),(68,.d (ex (.int .i64 (i:Nat))))],subH B l E [.var 33 ((tmC (tAt P k)).map .d)]⟩) ?leb ⟨0,l,by omega,hlD,rfl,rfl⟩ ?roundb
        case leb=>exact AS.le_of (by refine Yd ?_;refine Yp ?_;refine FrLe.cons rfl (AVle.fn rfl) ?_;refine FrLe.cons rfl (AVle.own rfl) ?_;refine Yp ?_;refine Yd ?_;refine Yd ?_;refine Yd ?_;refine Yd ?_;refine Yd ?_;refine Yd ?_;exact FrLe.nil) (by apply Yv;refine HpLe.cons (OwLe.dead) ?_;refine HpLe.cons (OwLe.dead) ?_;apply Yv;refine HpLe.cons (OwLe.varB rfl) ?_;apply Yr;apply Yr;apply Yr;apply Yr;apply Yr;apply Yr;apply Yr;apply Yr;refine HpLe.cons (OwLe.obj rfl) ?_;apply Yv;exact HpLe.nil)
        case roundb =>
         rintro mz _ ⟨i,l,hi8,hlD,rfl,rfl⟩
         by_cases hlti:i<8
         ·have hmi:=hmm i hlti
          have hsi:sN (tAt P k).m (i+1)≤Dg:=Nat.le_trans (sN_mono (by omega)) hsk
          have hsi2:sN (tAt P k).m (i+1) = sN (tAt P k).m i+((tAt P k).m i).toNat:=rfl
          by_cases h0:0<(tAt P k).m i
          ·have htr:trmL (tAt P k).c B (tAt P k).m (i+1) = pmul (trmL (tAt P k).c B (tAt P k).m i) (pw (B i) (((tAt P k).m i).toNat - 1)):=if_pos h0
           have hi4:i<4:=Nat.lt_of_not_le fun h4=>by have:=hV _ hmem i h4 hlti;omega
           obtain ⟨e,he⟩:∃ e,((tAt P k).m i).toNat = e+1:=⟨((tAt P k).m i).toNat - 1,by omega⟩
           have b1:=h.trm hcz (m:=(tAt P k).m) i (by omega) (by omega)
           have b2:=h.pw (i:=i) hlti e (by omega)
           have b3:=h.tN (a:=sN (tAt P k).m i+(e+1)) (by omega)
           have b4:=h.W (sN (tAt P k).m i) (by omega) (e+1) (by omega) (by omega) (by omega)
           have b5:=h.dN (a:=sN (tAt P k).m i+(e+1)) (by omega)
           have b6:((sN (tAt P k).m i+(e+1):Nat):Int)*d = (sN (tAt P k).m i:Int)*d+((e+1:Nat):Int)*d:=by rw [← Int.add_mul];congr 1
           have cmul:=PMul_pb b1 b2 (h.d1 _) (h.d1 _) (by omega) (by rw [← Nat.pow_add];exact b3) b4
           rw [show e = ((tAt P k).m i).toNat - 1 by omega] at cmul
           have hpb:∀ k,k<Dg→PB (pw (B i) k) (t ^ Dg) (M Dg) ((Dg:Int)*d):=fun k hk=>(h.pw hlti k hk).mono (Nat.pow_le_pow_right h.t0 (by omega)) (hMm _ (by omega)) (Int.mul_le_mul_of_nonneg_right (by omega) h.d0)
           apply Y1;refine Wq Qz.cmpT ?_;apply Y0;apply AWp.seq;refine Ct ?_;apply Ys;apply AWp.seq;apply AWp.block;apply Y1;refine Wm ?_;refine Wq Qz.atX1 ?_;refine Wa ?_;refine Wa ?_;apply Y0;apply Y1;refine Wm ?_;refine Wq Qz.cmpT ?_;apply Y0;refine Ct ?_;apply AWp.region;refine Wm ?_;refine Wm ?_;refine Wm ?_;refine Wm ?_
           refine AWs.con [4,3,5,6,7,8,9,10,11,12] [0,1] (powers1_con B l i hi4 ((tAt P k).m i) (e+1) Dg t w (t ^ Dg) (M Dg) d ((Dg:Int)*d) (by omega) (h.hB i hlti) hpb h.d0 (h.d1 _) hd1 htD hMD (by omega) (by omega) (hlD i) (by omega)) (by first | exact Or.inl rfl | exact Or.inr ⟨by decide,rfl,by repeat (first | exact AvoidR.nil | refine AvoidR.give rfl ?_ | refine AvoidR.dead ?_ | refine AvoidR.row ?_ | refine AvoidR.obj ?_ | refine AvoidR.varD ?_ | refine AvoidR.varA rfl ?_ | refine AvoidR.pin rfl ?_)⟩) rfl rfl (by first | exact .inl ⟨rfl,rfl⟩ | exact .inr ⟨rfl,rfl⟩) (by repeat (first | exact ArgsC.nil | refine ArgsC.d rfl (D.le.refl _) ?_ | refine ArgsC.av rfl rfl ?_)) (by decide) (by repeat (first | exact SelR.nil | refine SelR.var rfl ?_ | refine SelR.obj rfl ?_ | refine SelR.row rfl ?_ | refine SelR.varA rfl rfl rfl ?_)) (by repeat (first | exact trivial | refine ⟨⟨_,_,rfl⟩,?_⟩)) rfl ?_
           rintro _ _ ⟨n',hn',rfl,rfl⟩
           refine ⟨_,_,_,(by first | exact AVRen.d | exact AVRen.own rfl | exact AVRen.ptr rfl | exact AVRen.fn rfl),(by repeat (first | exact SetR.nil | (apply SetR.cons;(first | exact OwRen.dead | exact OwRen.varD | exact OwRen.obj | exact OwRen.row | exact OwRen.varA rfl);exact rfl))),(by repeat (first | exact AppR.nil | (apply AppR.cons;(first | exact OwRen.dead | exact OwRen.varD | exact OwRen.obj | exact OwRen.row | exact OwRen.varA rfl);exact rfl))),?_⟩
           refine Wq (Qz.call (cmul)) ?_;refine Wm ?_;refine Wq Qz.ext ?_;refine Wq Qz.ext ?_;refine Wa ?_;apply AWl.nil;apply ABlock.normal;apply Yn;apply AWp.region;refine Wq Qz.succ ?_;refine Wm ?_;apply AWl.nil
           refine ALoop.next (8 - (i+1)) (by omega) ⟨i+1,upF l i n',by omega,fun j=>?_,rfl,rfl⟩ ?_
           ·simp only [upF]
            split
            ·exact hn'
            ·exact hlD j
           exact AS.le_of (by refine Yd ?_;refine Yp ?_;refine FrLe.cons rfl (AVle.fn rfl) ?_;refine FrLe.cons rfl (AVle.own rfl) ?_;refine Yp ?_;refine FrLe.cons rfl (AVle.d (by rw [htr])) ?_;refine Yd ?_;refine Yd ?_;refine Yd ?_;refine Yd ?_;refine Yd ?_;exact FrLe.nil) (by apply Yv;refine HpLe.cons (OwLe.dead) ?_;refine HpLe.cons (OwLe.dead) ?_;refine HpLe.cons (OwLe.varB rfl) ?_;refine HpLe.cons (OwLe.varB rfl) ?_;apply Yr;apply Yr;apply Yr;apply Yr;apply Yr;apply Yr;apply Yr;apply Yr;refine HpLe.cons (OwLe.obj rfl) ?_;apply Yv;exact HpLe.nil)
          ·have htr:trmL (tAt P k).c B (tAt P k).m (i+1) = trmL (tAt P k).c B (tAt P k).m i:=if_neg h0
           apply Y1;refine Wq Qz.cmpT ?_;apply Y0;apply AWp.seq;refine Ct ?_;apply Ys;apply AWp.seq;apply AWp.block;apply Y1;refine Wm ?_;refine Wq Qz.atX1 ?_;refine Wa ?_;refine Wa ?_;apply Y0;apply Y1;refine Wm ?_;refine Wq Qz.cmpF ?_;apply Y0;refine Cf ?_;apply AWp.skip;apply ABlock.normal;apply Yn;apply AWp.region;refine Wq Qz.succ ?_;refine Wm ?_;apply AWl.nil
           refine ALoop.next (8 - (i+1)) (by omega) ⟨i+1,l,by omega,hlD,rfl,rfl⟩ ?_
           exact AS.le_of (by refine Yd ?_;refine Yp ?_;refine FrLe.cons rfl (AVle.fn rfl) ?_;refine FrLe.cons rfl (AVle.own rfl) ?_;refine Yp ?_;refine FrLe.cons rfl (AVle.d (by rw [htr])) ?_;refine Yd ?_;refine Yd ?_;refine Yd ?_;refine Yd ?_;refine Yd ?_;exact FrLe.nil) (by apply Yv;refine HpLe.cons (OwLe.dead) ?_;refine HpLe.cons (OwLe.dead) ?_;apply Yv;refine HpLe.cons (OwLe.varB rfl) ?_;apply Yr;apply Yr;apply Yr;apply Yr;apply Yr;apply Yr;apply Yr;apply Yr;refine HpLe.cons (OwLe.obj rfl) ?_;apply Yv;exact HpLe.nil)
         ·obtain rfl : i = 8 := by omega
          have hR:=h.trm hcz (m:=(tAt P k).m) 8 (by omega) hsk
          have hRl:t ^ sN (tAt P k).m 8≤t ^ Dg:=Nat.pow_le_pow_right h.t0 hsk
          have hRU:=hUm _ hsk
          have hRd:(sN (tAt P k).m 8:Int)*d≤(Dg:Int)*d:=Int.mul_le_mul_of_nonneg_right (by omega) h.d0
          have hR:=hR.mono hRl hRU hRd
          have hRlen:=hR.len
          have hkn:k*t ^ Dg+t ^ Dg≤n*t ^ Dg:=by rw [← Nat.succ_mul];exact Nat.mul_le_mul_right _ (by omega)
          have htD1:t ^ Dg≤100000:=h.tD
          generalize hRe:trmL (tAt P k).c B (tAt P k).m 8 = R at *
          apply Y1;refine Wq Qz.cmpF ?_;apply Y0;apply AWp.seq;refine Cf ?_;apply AWp.exit;apply AThen.exit;apply ALoop.exit;apply ABlock.hit;apply Yn;apply Y1;refine Wm ?_;refine Wq Qz.lenN ?_;refine Wm ?_;apply Y0;apply AWp.block
          refine AWp.loop (fun mz σ=>∃ j E',j≤R.length∧Colld E' (subTo B P k ++ R.take j) (k*t ^ Dg+j) (U Dg+1) ((Dg:Int)*d)∧mz = R.length - j∧σ = ⟨[(0,.d (polD P)),(3,.ptr 0 0),(10,.fn 149 [4,3]),(11,.own 13),(53,.d (polD P)),(54,.d (ex (.int .i64 (P.length:Nat)))),(55,.d (ex (.int .i64 (k:Nat)))),(84,.d (polD R)),(85,.d (ex (.int .i64 (R.length:Nat)))),(86,.d (ex (.int .i64 (j:Nat))))],subH B l E' []⟩) ?lec ⟨0,E,by omega,by simpa using hC,rfl,rfl⟩ ?roundc
          case lec=>exact AS.le_of (by refine Yd ?_;refine Yp ?_;refine FrLe.cons rfl (AVle.fn rfl) ?_;refine FrLe.cons rfl (AVle.own rfl) ?_;refine Yd ?_;refine Yd ?_;refine Yd ?_;refine Yd ?_;refine Yd ?_;refine Yd ?_;exact FrLe.nil) (by apply Yv;refine HpLe.cons (OwLe.dead) ?_;refine HpLe.cons (OwLe.dead) ?_;apply Yv;refine HpLe.cons (OwLe.varB rfl) ?_;apply Yr;apply Yr;apply Yr;apply Yr;apply Yr;apply Yr;apply Yr;apply Yr;refine HpLe.cons (OwLe.obj rfl) ?_;exact HpLe.nil)
          case roundc =>
           rintro mz _ ⟨j,E',hj,hC',rfl,rfl⟩
           by_cases hltj:j<R.length
           ·have hjm:=tAt_mem hltj
            have hN1:(k*t ^ Dg+j)*(U Dg+1)≤100000*10000000:=Nat.mul_le_mul (by omega) hUD
            apply Y1;refine Wq Qz.cmpT ?_;apply Y0;apply AWp.seq;refine Ct ?_;apply Ys;apply AWp.seq;apply AWp.block;apply Y1;refine Wq Qz.indexN ?_;refine Wq Qz.loadEf ?_;refine AWs.al (tab_of rfl) rfl rfl rfl rfl rfl rfl ?_;refine Sf ?_;apply Y0;apply AWp.region;refine Wm ?_;refine Wq Qz.fldP ?_;refine Wq Qz.ldD ?_;refine Wq Qz.fldP ?_;refine Wq Qz.ldD ?_
            refine AWs.con [13] [] (collect_con E' (tAt R j).c (tAt R j).m ((k*t ^ Dg+j)*(U Dg+1)) (U Dg) hC'.sz (hR.sz _ hjm) (by omega)) (by first | exact Or.inl rfl | exact Or.inr ⟨by decide,rfl,by repeat (first | exact AvoidR.nil | refine AvoidR.give rfl ?_ | refine AvoidR.dead ?_ | refine AvoidR.row ?_ | refine AvoidR.obj ?_ | refine AvoidR.varD ?_ | refine AvoidR.varA rfl ?_ | refine AvoidR.pin rfl ?_)⟩) rfl rfl (by first | exact .inl ⟨rfl,rfl⟩ | exact .inr ⟨rfl,rfl⟩) (by repeat (first | exact ArgsC.nil | refine ArgsC.d rfl (D.le.refl _) ?_ | refine ArgsC.av rfl rfl ?_)) (by decide) (by repeat (first | exact SelR.nil | refine SelR.var rfl ?_ | refine SelR.obj rfl ?_ | refine SelR.row rfl ?_ | refine SelR.varA rfl rfl rfl ?_)) (by repeat (first | exact trivial | refine ⟨⟨_,_,rfl⟩,?_⟩)) rfl ?_
            rintro _ _ ⟨E2,hc2,rfl,rfl⟩
            refine ⟨_,_,_,(by first | exact AVRen.d | exact AVRen.own rfl | exact AVRen.ptr rfl | exact AVRen.fn rfl),(by repeat (first | exact SetR.nil | (apply SetR.cons;(first | exact OwRen.dead | exact OwRen.varD | exact OwRen.obj | exact OwRen.row | exact OwRen.varA rfl);exact rfl))),(by repeat (first | exact AppR.nil | (apply AppR.cons;(first | exact OwRen.dead | exact OwRen.varD | exact OwRen.obj | exact OwRen.row | exact OwRen.varA rfl);exact rfl))),?_⟩
            apply AWl.nil;apply ABlock.normal;apply Yn;apply AWp.region;refine Wq Qz.succ ?_;refine Wm ?_;apply AWl.nil
            refine ALoop.next (R.length - (j+1)) (by omega) ⟨j+1,E2,by omega,?_,rfl,rfl⟩ ?_
            ·have:=hC'.step hc2 (hR.sz _ hjm) (Nat.le_refl _) (hR.ex _ hjm)
             rw [List.append_assoc] at this
             rw [← take_tAt hltj]
             exact this
            exact AS.le_of (by refine Yd ?_;refine Yp ?_;refine FrLe.cons rfl (AVle.fn rfl) ?_;refine FrLe.cons rfl (AVle.own rfl) ?_;refine Yd ?_;refine Yd ?_;refine Yd ?_;refine Yd ?_;refine Yd ?_;refine Yd ?_;exact FrLe.nil) (by apply Yv;refine HpLe.cons (OwLe.dead) ?_;refine HpLe.cons (OwLe.dead) ?_;apply Yv;refine HpLe.cons (OwLe.varB rfl) ?_;apply Yr;apply Yr;apply Yr;apply Yr;apply Yr;apply Yr;apply Yr;apply Yr;refine HpLe.cons (OwLe.obj rfl) ?_;exact HpLe.nil)
           ·obtain rfl : j = R.length := by omega
            apply Y1;refine Wq Qz.cmpF ?_;apply Y0;apply AWp.seq;refine Cf ?_;apply AWp.exit;apply AThen.exit;apply ALoop.exit;apply ABlock.hit;apply ABlock.normal;apply Yn;apply AWp.region;refine Wq Qz.succ ?_;refine Wm ?_;apply AWl.nil
            refine ALoop.next (P.length - (k+1)) (by omega) ⟨k+1,E',l,by omega,(hC'.simR ?_).more (by rw [Nat.succ_mul];omega),hlD,rfl,rfl⟩ ?_
            ·rw [hsub,List.take_length]
             exact Sim.refl _
            exact AS.le_of (by refine Yd ?_;refine Yp ?_;refine FrLe.cons rfl (AVle.fn rfl) ?_;refine FrLe.cons rfl (AVle.own rfl) ?_;refine Yd ?_;refine Yd ?_;refine Yd ?_;exact FrLe.nil) (by apply Yv;refine HpLe.cons (OwLe.dead) ?_;refine HpLe.cons (OwLe.dead) ?_;apply Yv;refine HpLe.cons (OwLe.varB rfl) ?_;apply Yr;apply Yr;apply Yr;apply Yr;apply Yr;apply Yr;apply Yr;apply Yr;refine HpLe.cons (OwLe.obj rfl) ?_;exact HpLe.nil)
      ·obtain rfl : k = P.length := by omega
       have hE:=hC.len
       have hE2:P.length*t ^ Dg≤n*t ^ Dg:=Nat.mul_le_mul_right _ hl
       apply Y1;refine Wq Qz.cmpF ?_;apply Y0;apply AWp.seq;refine Cf ?_;apply AWp.exit;apply AThen.exit;apply ALoop.exit;apply ABlock.hit;apply Yn;apply Y1;refine Wm ?_
       refine AWs.con [13] [] (sorted_con E (by omega)) (by first | exact Or.inl rfl | exact Or.inr ⟨by decide,rfl,by repeat (first | exact AvoidR.nil | refine AvoidR.give rfl ?_ | refine AvoidR.dead ?_ | refine AvoidR.row ?_ | refine AvoidR.obj ?_ | refine AvoidR.varD ?_ | refine AvoidR.varA rfl ?_ | refine AvoidR.pin rfl ?_)⟩) rfl rfl (by first | exact .inl ⟨rfl,rfl⟩ | exact .inr ⟨rfl,rfl⟩) (by repeat (first | exact ArgsC.nil | refine ArgsC.d rfl (D.le.refl _) ?_ | refine ArgsC.av rfl rfl ?_)) (by decide) (by repeat (first | exact SelR.nil | refine SelR.var rfl ?_ | refine SelR.obj rfl ?_ | refine SelR.row rfl ?_ | refine SelR.varA rfl rfl rfl ?_)) (by repeat (first | exact trivial | refine ⟨⟨_,_,rfl⟩,?_⟩)) rfl ?_
       rintro _ _ ⟨S,hS,rfl,rfl⟩
       refine ⟨_,_,_,(by first | exact AVRen.d | exact AVRen.own rfl | exact AVRen.ptr rfl | exact AVRen.fn rfl),(by repeat (first | exact SetR.nil | (apply SetR.cons;(first | exact OwRen.dead | exact OwRen.varD | exact OwRen.obj | exact OwRen.row | exact OwRen.varA rfl);exact rfl))),(by repeat (first | exact AppR.nil | (apply AppR.cons;(first | exact OwRen.dead | exact OwRen.varD | exact OwRen.obj | exact OwRen.row | exact OwRen.varA rfl);exact rfl))),?_⟩
       refine Wa ?_;refine Wa ?_;apply Y0;apply AWp.ret
       exact Fin.ret (Rets.of2 (ResV.tmp rfl rfl) (ResV.tmp rfl rfl) (D.le.tup2 (D.le.of_eq (polD_sim hS.1 (by have:=rsub_pb h hUm hP.sz hs P.length (Nat.le_refl _);rw [List.take_length] at this;exact this.can) (hS.2.1.trans (hC.sim.trans (by unfold subTo;rw [List.take_length];exact (rsub_sim B P).symm))))) (D.le.refl _)))
end Go.Proofs.YteicdddphdomkaaGreat
