/- Part 18 of the proof of hilbertCounts_holds. No condition. -/
import Derived.Test.YtialdhnijjnpaaaGreatQa2
import Derived.Test.YtialdhnijjnpaaaGreatQa17
set_option linter.unusedSimpArgs false
set_option linter.unusedVariables false
set_option maxRecDepth 100000
namespace Go.Proofs.YtialdhnijjnpaaaGreat
open Go.RowKit
def BD (ms : Ae):D:=slD 55 8 (ms.map AM)
def AW (ms : Ae) (k:Nat):Nat→Int:=ms.getD k default
theorem Gm {ms : Ae} {k:Nat} (h:k<ms.length):AW ms k∈ms:=by
 rw [AW,List.getD_eq_getElem?_getD,List.getElem?_eq_getElem h]
 exact List.getElem_mem _
theorem Uc : ∀ {l l':Ae},SameM l l'→BD l = BD l':=fun {l l'} h=>by
 have key:∀ {l l':Ae},SameM l l'→l.map AM = l'.map AM:=by
  intro l
  induction l with
  | nil =>
   intro l' h
   cases l' with
   | nil=>rfl
   | cons b l'=>exact h.elim
  | cons a l ih =>
   intro l' h
   cases l' with
   | nil=>exact h.elim
   | cons b l'=>rw [List.map_cons,List.map_cons,NI h.1,ih h.2]
 rw [BD,BD,key h]
theorem Iv (p : Nat→Prop):∀ n,(∀ k,k<n→p k)∨∃ z,z<n∧(∀ k,k<z→p k)∧¬ p z
 | 0=>.inl fun k h=>absurd h (Nat.not_lt_zero k)
 | n+1=>by
  rcases Iv p n with h | ⟨z,h1,h2,h3⟩
  ·rcases Classical.em (p n) with hn | hn
   ·refine .inl fun k hk=>?_
    by_cases e:k = n
    ·subst e;exact hn
    ·exact h k (by omega)
   ·exact .inr ⟨n,by omega,h,hn⟩
  ·exact .inr ⟨z,by omega,h2,h3⟩
theorem NN (a b:Nat→Int) (h:Dv a b):Abs Tryz.prog 122 [BU (AM a),BU (AM b)] (ex (.bool true)):=by
 refine Ab Tryz.func122 fun s0=>?_
 rw [Tryz.ntmps122]
 apply Y1;refine Bx ?_;refine Bx ?_;refine Wa<|Y0<|Aa<|Y1<|Wm<|Y0<|AWp.block ?_
 refine AK (fun mz σ=>∃ k,k≤8∧mz = 8 - k∧σ = ⟨[(2,.ptr 0 0),(3,.ptr 1 0),(6,.d (ex (.int .i64 (k:Nat))))],[.var 55 ((AM a).map .d),.var 55 ((AM b).map .d)]⟩) ?le ⟨0,by omega,rfl,rfl⟩ ?round
 case le=>exact Ah (by exact Yp<|Yp<|Yd<|FrLe.nil) (by exact Yv<|Yv<|HpLe.nil)
 case round =>
  rintro mz _ ⟨k,hk,rfl,rfl⟩
  by_cases hlt:k<8
  ·have h1:=h k hlt
   apply Y1;refine Wq Aq ?_;refine Y0<|Aa ?_;refine Ct ?_;refine Ys<|Aa<|AWp.block<|Y1<|Wm<|Wa<|Y0<|Aa ?_
   refine Dr [[],[(9,0)],[(10,1)],[],[(12,3)],[(13,4)],[(11,2),(14,5)]] [[],[0],[0,1],[],[3],[3,4],[0,1,2,3,4,5]] ?_
   refine Xq Am ?_;refine Xq Cq ?_;refine Xq CA ?_;refine Xq Am ?_;refine Xq Cq ?_;refine Xq CA ?_;refine Xq As ?_;refine ⟨_,rfl,?_⟩
   apply Y0;refine Cf ?_;apply Bp;apply Aj;refine Yn<|AWp.region ?_;refine Wq AN ?_;refine Wm ?_;apply AWl.nil
   refine ALoop.next (8 - (k+1)) (by omega) ⟨k+1,by omega,rfl,rfl⟩ ?_
   exact Ah (by exact Yp<|Yp<|Yd<|FrLe.nil) (by exact Yv<|Yv<|HpLe.nil)
  ·obtain rfl : k = 8 := by omega
   apply Y1;refine Wq As ?_;refine Y0<|Aa ?_;refine Cf ?_;apply AH;apply AA;apply AB;apply AC;refine Yn<|Y1<|Wa<|Y0 ?_;apply Aw
   exact Yf
theorem Um (a b:Nat→Int) (z:Nat) (hz:z<8) (h:∀ j,j<z→a j≤b j) (hbad:b z<a z):Abs Tryz.prog 122 [BU (AM a),BU (AM b)] (ex (.bool false)):=by
 refine Ab Tryz.func122 fun s0=>?_
 rw [Tryz.ntmps122]
 apply Y1;refine Bx ?_;refine Bx ?_;refine Wa<|Y0<|Aa<|Y1<|Wm<|Y0<|AWp.block ?_
 refine AK (fun mz σ=>∃ k,k≤z∧mz = z - k∧σ = ⟨[(2,.ptr 0 0),(3,.ptr 1 0),(6,.d (ex (.int .i64 (k:Nat))))],[.var 55 ((AM a).map .d),.var 55 ((AM b).map .d)]⟩) ?le ⟨0,by omega,rfl,rfl⟩ ?round
 case le=>exact Ah (by exact Yp<|Yp<|Yd<|FrLe.nil) (by exact Yv<|Yv<|HpLe.nil)
 case round =>
  rintro mz _ ⟨k,hk,rfl,rfl⟩
  by_cases hlt:k<z
  ·have h1:=h k hlt
   have h8:k<8:=by omega
   apply Y1;refine Wq Aq ?_;refine Y0<|Aa ?_;refine Ct ?_;refine Ys<|Aa<|AWp.block<|Y1<|Wm<|Wa<|Y0<|Aa ?_
   refine Dr [[],[(9,0)],[(10,1)],[],[(12,3)],[(13,4)],[(11,2),(14,5)]] [[],[0],[0,1],[],[3],[3,4],[0,1,2,3,4,5]] ?_
   refine Xq Am ?_;refine Xq Cq ?_;refine Xq CA ?_;refine Xq Am ?_;refine Xq Cq ?_;refine Xq CA ?_;refine Xq As ?_;refine ⟨_,rfl,?_⟩
   apply Y0;refine Cf ?_;apply Bp;apply Aj;refine Yn<|AWp.region ?_;refine Wq AN ?_;refine Wm ?_;apply AWl.nil
   refine ALoop.next (z - (k+1)) (by omega) ⟨k+1,by omega,rfl,rfl⟩ ?_
   exact Ah (by exact Yp<|Yp<|Yd<|FrLe.nil) (by exact Yv<|Yv<|HpLe.nil)
  ·obtain rfl : z = k := by omega
   apply Y1;refine Wq Aq ?_;refine Y0<|Aa ?_;refine Ct ?_;refine Ys<|Aa<|AWp.block<|Y1<|Wm<|Wa<|Y0<|Aa ?_
   refine Dr [[],[(9,0)],[(10,1)],[],[(12,3)],[(13,4)],[(11,2),(14,5)]] [[],[0],[0,1],[],[3],[3,4],[0,1,2,3,4,5]] ?_
   refine Xq Am ?_;refine Xq Cq ?_;refine Xq CA ?_;refine Xq Am ?_;refine Xq Cq ?_;refine Xq CA ?_;refine Xq Aq ?_;refine ⟨_,rfl,?_⟩
   apply Y0;refine Ct ?_;refine Y1<|Wa<|Y0 ?_;apply Aw;apply By;apply AP;apply Dq;apply By;apply AP
   exact Yf
theorem TL (a b:Nat→Int) (h:Dv a b):Abs Tryz.prog 77 [BU (AM a),BU (AM b)] (ex (.bool true)):=by
 refine Ab Tryz.func77 fun s0=>?_
 rw [Tryz.ntmps77]
 apply Y1;refine Bx ?_;refine Bx ?_;refine Wa<|Y0<|Aa<|Y1<|Wa<|Y0<|AWp.block ?_
 refine AK (fun mz σ=>∃ k,k≤8∧mz = 8 - k∧σ = ⟨[(2,.ptr 0 0),(3,.ptr 1 0),(5,.d (ex (.int .i64 (k:Nat))))],[.var 55 ((AM a).map .d),.var 55 ((AM b).map .d)]⟩) ?le ⟨0,by omega,rfl,rfl⟩ ?round
 case le=>exact Ah (by exact Yp<|Yp<|Yd<|FrLe.nil) (by exact Yv<|Yv<|HpLe.nil)
 case round =>
  rintro mz _ ⟨k,hk,rfl,rfl⟩
  by_cases hlt:k<8
  ·have h1:=h k hlt
   refine Aa<|Y1<|Wm ?_;refine Wq Aq ?_;apply Y0;refine Ct ?_;refine Ys<|Aa<|AWp.block<|Aa ?_
   refine Dr [[],[(10,0)],[(11,1)],[],[(13,3)],[(14,4)],[(12,2),(15,5)]] [[],[0],[0,1],[],[3],[3,4],[0,1,2,3,4,5]] ?_
   refine Xq Am ?_;refine Xq Cq ?_;refine Xq CA ?_;refine Xq Am ?_;refine Xq Cq ?_;refine Xq CA ?_;refine Xq As ?_;refine ⟨_,rfl,?_⟩
   apply Y0;refine Cf ?_;apply Bp;apply Aj;refine Yn<|AWp.region<|Wm ?_;refine Wq AN ?_;refine Wa ?_;apply AWl.nil
   refine ALoop.next (8 - (k+1)) (by omega) ⟨k+1,by omega,rfl,rfl⟩ ?_
   exact Ah (by exact Yp<|Yp<|Yd<|FrLe.nil) (by exact Yv<|Yv<|HpLe.nil)
  ·obtain rfl : k = 8 := by omega
   refine Aa<|Y1<|Wm ?_;refine Wq As ?_;apply Y0;refine Cf ?_;apply AH;apply AA;apply AB;apply AC;refine Yn<|Y1<|Wa<|Y0 ?_;apply Aw
   exact Yf
theorem TM (a b:Nat→Int) (z:Nat) (hz:z<8) (h:∀ j,j<z→a j≤b j) (hbad:b z<a z):Abs Tryz.prog 77 [BU (AM a),BU (AM b)] (ex (.bool false)):=by
 refine Ab Tryz.func77 fun s0=>?_
 rw [Tryz.ntmps77]
 apply Y1;refine Bx ?_;refine Bx ?_;refine Wa<|Y0<|Aa<|Y1<|Wa<|Y0<|AWp.block ?_
 refine AK (fun mz σ=>∃ k,k≤z∧mz = z - k∧σ = ⟨[(2,.ptr 0 0),(3,.ptr 1 0),(5,.d (ex (.int .i64 (k:Nat))))],[.var 55 ((AM a).map .d),.var 55 ((AM b).map .d)]⟩) ?le ⟨0,by omega,rfl,rfl⟩ ?round
 case le=>exact Ah (by exact Yp<|Yp<|Yd<|FrLe.nil) (by exact Yv<|Yv<|HpLe.nil)
 case round =>
  rintro mz _ ⟨k,hk,rfl,rfl⟩
  by_cases hlt:k<z
  ·have h1:=h k hlt
   have h8:k<8:=by omega
   refine Aa<|Y1<|Wm ?_;refine Wq Aq ?_;apply Y0;refine Ct ?_;refine Ys<|Aa<|AWp.block<|Aa ?_
   refine Dr [[],[(10,0)],[(11,1)],[],[(13,3)],[(14,4)],[(12,2),(15,5)]] [[],[0],[0,1],[],[3],[3,4],[0,1,2,3,4,5]] ?_
   refine Xq Am ?_;refine Xq Cq ?_;refine Xq CA ?_;refine Xq Am ?_;refine Xq Cq ?_;refine Xq CA ?_;refine Xq As ?_;refine ⟨_,rfl,?_⟩
   apply Y0;refine Cf ?_;apply Bp;apply Aj;refine Yn<|AWp.region<|Wm ?_;refine Wq AN ?_;refine Wa ?_;apply AWl.nil
   refine ALoop.next (z - (k+1)) (by omega) ⟨k+1,by omega,rfl,rfl⟩ ?_
   exact Ah (by exact Yp<|Yp<|Yd<|FrLe.nil) (by exact Yv<|Yv<|HpLe.nil)
  ·obtain rfl : z = k := by omega
   refine Aa<|Y1<|Wm ?_;refine Wq Aq ?_;apply Y0;refine Ct ?_;refine Ys<|Aa<|AWp.block<|Aa ?_
   refine Dr [[],[(10,0)],[(11,1)],[],[(13,3)],[(14,4)],[(12,2),(15,5)]] [[],[0],[0,1],[],[3],[3,4],[0,1,2,3,4,5]] ?_
   refine Xq Am ?_;refine Xq Cq ?_;refine Xq CA ?_;refine Xq Am ?_;refine Xq Cq ?_;refine Xq CA ?_;refine Xq Aq ?_;refine ⟨_,rfl,?_⟩
   apply Y0;refine Ct ?_;refine Y1<|Wa<|Y0 ?_;apply Aw;apply By;apply AP;apply Dq;apply By;apply AP
   exact Yf
theorem XN (a b:Nat→Int):(Dv a b∧Gv 8 0 a b = true)∨(Gv 8 0 a b = false∧∃ z,z<8∧(∀ j,j<z→a j≤b j)∧b z<a z):=by
 rcases Iv (fun j=>a j≤b j) 8 with h | ⟨z,h1,h2,h3⟩
 ·exact .inl ⟨h,Oi.2 h⟩
 ·exact .inr ⟨Bool.eq_false_iff.2 fun h=>h3 (Oi.1 h z h1),z,h1,h2,by omega⟩
theorem Mw (a b:Nat→Int):Abs Tryz.prog 122 [BU (AM a),BU (AM b)] (ex (.bool (Gv 8 0 a b))):=by
 rcases XN a b with ⟨h,e⟩ | ⟨e,z,h1,h2,h3⟩
 ·rw [e];exact NN a b h
 ·rw [e];exact Um a b z h1 h2 h3
theorem Ml (a b:Nat→Int):Abs Tryz.prog 77 [BU (AM a),BU (AM b)] (ex (.bool (Gv 8 0 a b))):=by
 rcases XN a b with ⟨h,e⟩ | ⟨e,z,h1,h2,h3⟩
 ·rw [e];exact TL a b h
 ·rw [e];exact TM a b z h1 h2 h3
theorem XL (l : Ae) (x:Nat→Int):(inB l x = false∧∀ k,k<l.length→Gv 8 0 (AW l k) x = false)∨(inB l x = true∧∃ z,z<l.length∧(∀ k,k<z→Gv 8 0 (AW l k) x = false)∧Gv 8 0 (AW l z) x = true):=by
 rcases Iv (fun k=>Gv 8 0 (AW l k) x = false) l.length with h | ⟨z,h1,h2,h3⟩
 ·refine .inl ⟨Bool.eq_false_iff.2 fun hi=>?_,h⟩
  obtain ⟨a,ha,hd⟩:=CN.1 hi
  obtain ⟨k,hk,rfl⟩:=List.getElem_of_mem ha
  have:=h k hk
  rw [AW,List.getD_eq_getElem?_getD,List.getElem?_eq_getElem hk] at this
  rw [Option.getD_some,Oi.2 hd] at this
  cases this
 ·have h4 : Gv 8 0 (AW l z) x = true := by cases hb : Gv 8 0 (AW l z) x <;> simp_all
  exact .inr ⟨CN.2 ⟨_,Gm h1,Oi.1 h4⟩,z,h1,h2,h4⟩
theorem Jh (x : Nat→Int) (l:Ae) (hn:l.length≤1000000):Abs Tryz.prog 71 [BU (AM x),BD l] (ex (.bool (inB l x))):=by
 rcases XL l x with ⟨e,h⟩ | ⟨e,z,h1,h2,h3⟩
 ·rw [e]
  refine Ab Tryz.func71 fun s0=>?_
  rw [Tryz.ntmps71]
  apply Y1;refine Bx ?_;refine Wa<|Y0<|Aa<|Y1<|Wm ?_;refine Wq Cm ?_;refine Wm<|Y0<|AWp.block ?_
  refine AK (fun mz σ=>∃ k,k≤l.length∧mz = l.length - k∧σ = ⟨[(2,.ptr 0 0),(7,.d (BD l)),(8,.d (ex (.int .i64 (l.length:Nat)))),(9,.d (ex (.int .i64 (k:Nat))))],[.var 55 ((AM x).map .d)]⟩) ?le ⟨0,by omega,rfl,rfl⟩ ?round
  case le=>exact Ah (by exact Yp<|Yd<|Yd<|Yd<|FrLe.nil) (by exact Yv<|HpLe.nil)
  case round =>
   rintro mz _ ⟨k,hk,rfl,rfl⟩
   by_cases hlt:k<l.length
   ·have ck:=Mw (AW l k) x
    rw [h k hlt] at ck
    apply Y1;refine Wq Aq ?_;refine Y0<|Aa ?_;refine Ct ?_;refine Ys<|Aa<|AWp.block<|Y1 ?_;refine Wq Bk ?_;refine Wq Bc ?_;refine Al ?_;refine Sf ?_;refine Y0<|Y1 ?_;refine Wq AR ?_;refine Wq AR ?_;refine Wq (Ao (ck)) ?_;apply Y0;refine Cf ?_;apply Bp;apply Aj;refine Yn<|AWp.region ?_;refine Wq AN ?_;refine Wm ?_;apply AWl.nil
    refine ALoop.next (l.length - (k+1)) (by omega) ⟨k+1,by omega,rfl,rfl⟩ ?_
    exact Ah (by exact Yp<|Yd<|Yd<|Yd<|FrLe.nil) (by exact Yv<|HpLe.nil)
   ·obtain rfl : k = l.length := by omega
    apply Y1;refine Wq As ?_;refine Y0<|Aa ?_;refine Cf ?_;apply AH;apply AA;apply AB;apply AC;refine Yn<|Y1<|Wa<|Y0 ?_;apply Aw
    exact Yf
 ·rw [e]
  refine Ab Tryz.func71 fun s0=>?_
  rw [Tryz.ntmps71]
  apply Y1;refine Bx ?_;refine Wa<|Y0<|Aa<|Y1<|Wm ?_;refine Wq Cm ?_;refine Wm<|Y0<|AWp.block ?_
  refine AK (fun mz σ=>∃ k,k≤z∧mz = z - k∧σ = ⟨[(2,.ptr 0 0),(7,.d (BD l)),(8,.d (ex (.int .i64 (l.length:Nat)))),(9,.d (ex (.int .i64 (k:Nat))))],[.var 55 ((AM x).map .d)]⟩) ?le ⟨0,by omega,rfl,rfl⟩ ?round
  case le=>exact Ah (by exact Yp<|Yd<|Yd<|Yd<|FrLe.nil) (by exact Yv<|HpLe.nil)
  case round =>
   rintro mz _ ⟨k,hk,rfl,rfl⟩
   by_cases hlt:k<z
   ·have hkl : k < l.length := by omega
    have ck:=Mw (AW l k) x
    rw [h2 k hlt] at ck
    apply Y1;refine Wq Aq ?_;refine Y0<|Aa ?_;refine Ct ?_;refine Ys<|Aa<|AWp.block<|Y1 ?_;refine Wq Bk ?_;refine Wq Bc ?_;refine Al ?_;refine Sf ?_;refine Y0<|Y1 ?_;refine Wq AR ?_;refine Wq AR ?_;refine Wq (Ao (ck)) ?_;apply Y0;refine Cf ?_;apply Bp;apply Aj;refine Yn<|AWp.region ?_;refine Wq AN ?_;refine Wm ?_;apply AWl.nil
    refine ALoop.next (z - (k+1)) (by omega) ⟨k+1,by omega,rfl,rfl⟩ ?_
    exact Ah (by exact Yp<|Yd<|Yd<|Yd<|FrLe.nil) (by exact Yv<|HpLe.nil)
   ·obtain rfl : z = k := by omega
    have ck:=Mw (AW l z) x
    rw [h3] at ck
    apply Y1;refine Wq Aq ?_;refine Y0<|Aa ?_;refine Ct ?_;refine Ys<|Aa<|AWp.block<|Y1 ?_;refine Wq Bk ?_;refine Wq Bc ?_;refine Al ?_;refine Sf ?_;refine Y0<|Y1 ?_;refine Wq AR ?_;refine Wq AR ?_;refine Wq (Ao (ck)) ?_;apply Y0;refine Ct ?_;refine Y1<|Wa<|Y0 ?_;apply Aw;apply By;apply AP;apply Dq;apply By;apply AP
    exact Yf
theorem VX (x : Nat→Int) (l:Ae) (hn:l.length≤1000000):Abs Tryz.prog 34 [BU (AM x),BD l] (ex (.bool (inB l x))):=by
 rcases XL l x with ⟨e,h⟩ | ⟨e,z,h1,h2,h3⟩
 ·rw [e]
  refine Ab Tryz.func34 fun s0=>?_
  rw [Tryz.ntmps34]
  apply Y1;refine Bx ?_;refine Wa<|Y0<|Aa<|Y1<|Wa<|Y0<|AWp.block ?_
  refine AK (fun mz σ=>∃ k,k≤l.length∧mz = l.length - k∧σ = ⟨[(1,.d (BD l)),(2,.ptr 0 0),(5,.d (ex (.int .i64 (k:Nat))))],[.var 55 ((AM x).map .d)]⟩) ?le ⟨0,by omega,rfl,rfl⟩ ?round
  case le=>exact Ah (by exact Yd<|Yp<|Yd<|FrLe.nil) (by exact Yv<|HpLe.nil)
  case round =>
   rintro mz _ ⟨k,hk,rfl,rfl⟩
   by_cases hlt:k<l.length
   ·have ck:=Ml (AW l k) x
    rw [h k hlt] at ck
    refine Aa<|Y1<|Wm<|Wm ?_;refine Wq Cm ?_;refine Wq Aq ?_;apply Y0;refine Ct ?_;refine Ys<|Aa<|AWp.block<|Aa ?_
    refine Dr [[],[],[(12,0),(13,1)],[(14,2)],[],[(15,3),(16,4)]] [[],[],[0,1],[0,1,2],[],[0,1,2,3,4]] ?_
    refine Xq Am ?_;refine Xq Am ?_;refine Xq Bk ?_;refine Xq Bc ?_;refine Xq AR ?_;refine Xq (Ao (ck)) ?_;refine ⟨_,rfl,?_⟩
    apply Y0;refine Cf ?_;apply Bp;apply Aj;refine Yn<|AWp.region<|Wm ?_;refine Wq AN ?_;refine Wa ?_;apply AWl.nil
    refine ALoop.next (l.length - (k+1)) (by omega) ⟨k+1,by omega,rfl,rfl⟩ ?_
    exact Ah (by exact Yd<|Yp<|Yd<|FrLe.nil) (by exact Yv<|HpLe.nil)
   ·obtain rfl : k = l.length := by omega
    refine Aa<|Y1<|Wm<|Wm ?_;refine Wq Cm ?_;refine Wq As ?_;apply Y0;refine Cf ?_;apply AH;apply AA;apply AB;apply AC;refine Yn<|Y1<|Wa<|Y0 ?_;apply Aw
    exact Yf
 ·rw [e]
  refine Ab Tryz.func34 fun s0=>?_
  rw [Tryz.ntmps34]
  apply Y1;refine Bx ?_;refine Wa<|Y0<|Aa<|Y1<|Wa<|Y0<|AWp.block ?_
  refine AK (fun mz σ=>∃ k,k≤z∧mz = z - k∧σ = ⟨[(1,.d (BD l)),(2,.ptr 0 0),(5,.d (ex (.int .i64 (k:Nat))))],[.var 55 ((AM x).map .d)]⟩) ?le ⟨0,by omega,rfl,rfl⟩ ?round
  case le=>exact Ah (by exact Yd<|Yp<|Yd<|FrLe.nil) (by exact Yv<|HpLe.nil)
  case round =>
   rintro mz _ ⟨k,hk,rfl,rfl⟩
   by_cases hlt:k<z
   ·have hkl : k < l.length := by omega
    have ck:=Ml (AW l k) x
    rw [h2 k hlt] at ck
    refine Aa<|Y1<|Wm<|Wm ?_;refine Wq Cm ?_;refine Wq Aq ?_;apply Y0;refine Ct ?_;refine Ys<|Aa<|AWp.block<|Aa ?_
    refine Dr [[],[],[(12,0),(13,1)],[(14,2)],[],[(15,3),(16,4)]] [[],[],[0,1],[0,1,2],[],[0,1,2,3,4]] ?_
    refine Xq Am ?_;refine Xq Am ?_;refine Xq Bk ?_;refine Xq Bc ?_;refine Xq AR ?_;refine Xq (Ao (ck)) ?_;refine ⟨_,rfl,?_⟩
    apply Y0;refine Cf ?_;apply Bp;apply Aj;refine Yn<|AWp.region<|Wm ?_;refine Wq AN ?_;refine Wa ?_;apply AWl.nil
    refine ALoop.next (z - (k+1)) (by omega) ⟨k+1,by omega,rfl,rfl⟩ ?_
    exact Ah (by exact Yd<|Yp<|Yd<|FrLe.nil) (by exact Yv<|HpLe.nil)
   ·obtain rfl : z = k := by omega
    have ck:=Ml (AW l z) x
    rw [h3] at ck
    refine Aa<|Y1<|Wm<|Wm ?_;refine Wq Cm ?_;refine Wq Aq ?_;apply Y0;refine Ct ?_;refine Ys<|Aa<|AWp.block<|Aa ?_
    refine Dr [[],[],[(12,0),(13,1)],[(14,2)],[],[(15,3),(16,4)]] [[],[],[0,1],[0,1,2],[],[0,1,2,3,4]] ?_
    refine Xq Am ?_;refine Xq Am ?_;refine Xq Bk ?_;refine Xq Bc ?_;refine Xq AR ?_;refine Xq (Ao (ck)) ?_;refine ⟨_,rfl,?_⟩
    apply Y0;refine Ct ?_;refine Y1<|Wa<|Y0 ?_;apply Aw;apply By;apply AP;apply Dq;apply By;apply AP
    exact Yf
end Go.Proofs.YtialdhnijjnpaaaGreat
namespace Go.Proofs.YtialdhnijjnpaaaGreat
open Go.RowKit Go.Sort
def Hn (x : Nat→Int):List Value:=(c8 x).toList
def ZO (x y:Nat→Int):Int:=Gq x y
theorem LB (a b:Nat→Int):lx a b = Gq a b:=by simp [lx,EH,EB]
theorem Oh (x : Nat→Int) {j:Nat} (h:j<8):(Hn x)[j]! = .int .i64 (x j):=by
 rcases lt8 h with rfl | rfl | rfl | rfl | rfl | rfl | rfl | rfl <;> rfl
theorem VJ : SWO (ltOf ZO) where
 irrefl x:=by
  have:=Mx x
  rw [LB] at this
  simp [ltOf,ZO,this]
 trans x y z h1 h2:=by
  have h1:Gq x y<0:=of_decide_eq_true h1
  have h2:Gq y z<0:=of_decide_eq_true h2
  show decide (Gq x z<0) = true
  rw [decide_eq_true_eq]
  rw [← LB] at h1 h2 ⊢
  have:=Un (a:=z) (b:=y) (c:=x) (by rw [Eh];omega) (by rw [Eh];omega)
  rw [Eh]
  omega
 ntrans x y z h1 h2:=by
  have h1:¬ Gq x y<0:=of_decide_eq_false h1
  have h2:¬ Gq y z<0:=of_decide_eq_false h2
  show decide (Gq x z<0) = false
  rw [decide_eq_false_iff_not]
  have:=(Hf (R:=[]) (a:=x) (b:=y) (c:=z) (by rw [show EH [] x y = Gq x y from LB x y];omega) (by rw [show EH [] y z = Gq y z from LB y z];omega)).1
  rw [show EH [] x z = Gq x z from LB x z] at this
  omega
theorem SJ (g c:Nat) (d:Array (Nat→Int)) (w:World) (hH:HoldsK Hn 8 w g 0 d) (hgl:g<w.heap.size) (hn:d.size<4611686018427387904) :
  Calls Tryz.prog 124 #[.slice (some ⟨g,0,none⟩) d.size c,.func (.func 74) #[] #[]] w fun e w'=>e = .returned (.tuple #[])∧∃ d' m os,PermIn 0 d.size d d'∧SortedIn (ltOf ZO) 0 d.size d'∧w' = sortWorldK Hn 8 w g 0 m d' os:=by
 have eg:∀ args w,(callFunc 74 args).run Tryz.prog w = .ok (.enter 74 args) w:=enters_of Tryz.func74 (by kernel_rfl) rfl
 have hcmp:CmpLays Tryz.prog 74 #[] Hn 8 ZO g 0 d.size w:=fun m os dk hdk x y=>(Se x y _).mono fun e w' ⟨he,hg⟩=>⟨he,hg.grow⟩
 refine (AnyQ.slices_SortFunc Tryz.sortMono 8 Tryz.isAgg55 Tryz.sizeOf55 Hn (fun _=>rfl) (fun x v hv=>by simp [Hn,c8] at hv;rcases hv with rfl | rfl | rfl | rfl | rfl | rfl | rfl | rfl <;> rfl) ZO VJ 74 #[] g 0 c d w eg hcmp hH hgl hn).mono ?_
 rintro e w' ⟨rfl,d',q,os,hp,hs,rfl⟩
 exact ⟨rfl,d',q,os,hp,hs,rfl⟩
def Ed (l : Ae):List D:=(l.map AM).flatten
theorem CW : ∀ l:Ae,(Ed l).length = l.length*8
 | []=>rfl
 | a :: l=>by
  show (AM a ++ Ed l).length = _
  rw [List.length_append,CW l,List.length_cons,Nat.succ_mul,Nat.add_comm]
  rfl
theorem It : ∀ (l:Ae) {i j:Nat},i<l.length→j<8→Bu (Ed l) (i*8+j) = ex (.int .i64 (AW l i j))
 | a :: l,0,j,_,hj=>by
  show Bu (AM a ++ Ed l) (0*8+j) = _
  rw [Nat.zero_mul,Nat.zero_add]
  have:Bu (AM a ++ Ed l) j = Bu (AM a) j:=by
   simp only [Bu]
   rw [List.getD_eq_getElem?_getD,List.getD_eq_getElem?_getD,List.getElem?_append_left (by rw [Cg];exact hj)]
  rw [this,HM hj]
  rfl
 | a :: l,i+1,j,hi,hj=>by
  have ih:=It l (i:=i) (j:=j) (by simpa using hi) hj
  show Bu (AM a ++ Ed l) ((i+1)*8+j) = _
  have:Bu (AM a ++ Ed l) ((i+1)*8+j) = Bu (Ed l) (i*8+j):=by
   simp only [Bu]
   rw [List.getD_eq_getElem?_getD,List.getD_eq_getElem?_getD,List.getElem?_append_right (by rw [Cg];omega),Cg,show (i+1)*8+j - 8 = i*8+j by omega]
  rw [this,ih]
  rfl
theorem Lm (l : Ae) (g c:Nat) (hn:l.length≤1000000):Con Tryz.prog 124 [.d (sX g l.length c),.d (ex (.func (.func 74) #[] #[]))] [.obj (Bj [⟨g,55,Ed l⟩])] []
  (fun r hp'=>∃ s:Ae,s.Perm l∧(s.Pairwise fun a b=>lx a b≤0)∧r = .d Ch∧hp' = [.obj (Bj [⟨g,55,Ed s⟩])]):=by
 refine ⟨Ar Tryz.func124 (by kernel_rfl) (by kernel_rfl),fun s ρ vs hok hhp hsep hl hv=>?_⟩
 have e1:vs.getD 0 undef = .slice (some ⟨g,0,none⟩) l.length c:=hv 0 _ rfl
 have e2:vs.getD 1 undef = .func (.func 74) #[] #[]:=hv 1 _ rfl
 have evs:vs.toArray = #[.slice (some ⟨g,0,none⟩) l.length c,.func (.func 74) #[] #[]]:=by
  match vs,hl with
  | [a,b],_ =>
   have e1:a = _:=e1
   have e2:b = _:=e2
   rw [e1,e2]
 obtain ⟨h1,_⟩:=Dk (hhp 0 _ rfl)
 obtain ⟨hT,hS,cs,hg,hlc,hcd⟩:=h1 _ List.mem_cons_self
 replace hS:∀ k,¬ s.S g k:=hS
 replace hg:s.w.heap[g]? = some (.cells cs 55 (0,0)):=hg
 replace hlc:(Ed l).length≤cs.size:=hlc
 replace hcd:∀ k,k<(Ed l).length→∃ u,cs[k]? = some u∧u.oneCell' = true∧(Bu (Ed l) k).rel s u:=hcd
 rw [CW] at hlc hcd
 have hcell:∀ i j,i<l.length→j<8→cs[i*8+j]? = some (.int .i64 (AW l i j)):=fun i j hi hj=>by
  obtain ⟨u,g1,_,g3⟩:=hcd (i*8+j) (by omega)
  rw [It l hi hj] at g3
  rw [g1]
  exact congrArg some g3
 have hlt:g<s.w.heap.size:=At hg
 obtain ⟨d,hd⟩:∃ d:Array (Nat→Int),d = l.toArray:=⟨_,rfl⟩
 have hds:d.size = l.length:=by rw [hd];simp
 have hdg:∀ i,i<l.length→d[i]! = AW l i:=fun i hi=>by
  rw [getElem!_pos d i (by omega),AW,List.getD_eq_getElem?_getD,List.getElem?_eq_getElem hi]
  simp [hd]
 have hH:HoldsK Hn 8 s.w g 0 d:=by
  intro q hq
  rw [size_flatK,hds] at hq
  rw [get_flatK _ _ _ _ (by rw [hds];exact hq),hdg _ (by omega),Oh _ (by omega),Nat.zero_add]
  have:=hcell (q / 8) (q % 8) (by omega) (by omega)
  rw [show q / 8*8+q % 8 = q by omega] at this
  exact ⟨(AJ hg).trans this,Blk.frozen hg q⟩
 have hcon:=SJ g c d s.w hH hlt (by omega)
 rw [hds] at hcon
 rw [evs]
 refine hcon.mono ?_
 rintro e w' ⟨rfl,d',m,os,hp,hs,rfl⟩
 have hds':d'.size = l.length:=hp.1.trans hds
 have hnew:=IV Hn 8 s.w g 0 m d' os hg
 have hfar:∀ b,b<s.w.heap.size→b ≠ g→(sortWorldK Hn 8 s.w g 0 m d' os).heap[b]? = s.w.heap[b]? := fun b hb hne=>IW Hn 8 s.w g 0 m d' os hb hne
 have hsz:s.w.heap.size≤(sortWorldK Hn 8 s.w g 0 m d' os).heap.size:=size_sortWorldK_c Hn 8 s.w g 0 m d' os
 let s':GS:=⟨fun b k=>s.S b k∨(s.w.heap.size≤b∧b<(sortWorldK Hn 8 s.w g 0 m d' os).heap.size),s.tag,sortWorldK Hn 8 s.w g 0 m d' os⟩
 have hc:GS.Chg s s':=⟨hsz,fun _ _ h=>.inl h,fun b cs' T fz hb=>by
  by_cases e:b = g
  ·subst e
   rw [hg] at hb
   cases hb
   exact ⟨_,_,hnew,fun k hk=>absurd hk (hS k)⟩
  ·exact ⟨cs',fz,(hfar b (At hb) e).trans hb,fun _ _=>rfl⟩⟩
 have hok':s'.Ok:=⟨fun b k hb=>hb.elim (fun h=>Nat.lt_of_lt_of_le (hok.lt b k h) hsz) fun h=>h.2,fun b k ⟨c2,fz,hb⟩=>by
  replace hb:(sortWorldK Hn 8 s.w g 0 m d' os).heap[b]? = some (.cells c2 136 fz):=hb
  rcases Nat.lt_or_ge b s.w.heap.size with h1 | h1
  ·by_cases e:b = g
   ·rw [e,hnew] at hb
    exact absurd (Obj.cells.inj (Option.some.inj hb)).2.1 (by decide)
   ·exact .inl (hok.safe b k ⟨c2,fz,(hfar b h1 e).symm.trans hb⟩)
  ·exact .inr ⟨h1,At hb⟩⟩
 have e3:(d'.extract 0 l.length).toList = d'.toList:=by
  rw [← hds']
  simp
 have e4:(d.extract 0 l.length).toList = l:=by
  rw [← hds,hd]
  simp
 have hperm:d'.toList.Perm l:=by
  have:=hp.2.2
  rw [e3,e4] at this
  exact this
 refine ⟨_,rfl,s',ρ,.d Ch,[.obj (Bj [⟨g,55,Ed d'.toList⟩])],⟨d'.toList,hperm,?_,rfl,rfl⟩,rfl,trivial,⟨⟨rfl,rfl,rfl,fun k hk hm=>hfar k hk fun e=>hm ⟨0,_,rfl,⟨_,List.mem_cons_self,e.symm⟩⟩,hc,fun b k hb _ hk=>hk.elim (fun h=>h) fun h=>absurd hb (by omega),fun _ _=>rfl,fun _=>hok'⟩,hok',fun i o hi=>?_,fun i j o o' hij hi hj=>?_,fun i o b hi hb=>?_,fun _ _ _=>rfl,Nat.le_refl _⟩⟩
 ·rw [List.pairwise_iff_getElem]
  intro i j h1 h2 hij
  have:=hs i j (Nat.zero_le _) hij (by rw [Array.length_toList] at h2;omega)
  have this:¬ Gq (d'[j]!) (d'[i]!)<0:=of_decide_eq_false this
  rw [Array.length_toList] at h1 h2
  rw [getElem!_pos d' i h1,getElem!_pos d' j h2] at this
  rw [← LB,Eh] at this
  simp only [Array.getElem_toList]
  omega
 ·match i,hi with
  | 0,hi =>
   cases hi
   refine ⟨fun x hx=>?_,by simp⟩
   rw [List.mem_singleton.1 hx]
   refine ⟨(by decide:(55:TypeId) ≠ 136),fun k hk=>hk.elim (hS k) fun h=>absurd hlt (by show ¬ g<_;have:s.w.heap.size≤g:=h.1;omega),_,hnew,?_,fun k hk=>?_⟩
   ·show (Ed d'.toList).length≤_
    rw [CW,Array.length_toList,hds']
    simpa [putCells] using hlc
   ·have hk:k<(Ed d'.toList).length:=hk
    rw [CW,Array.length_toList,hds'] at hk
    have hkd:k / 8<l.length:=by omega
    have e5:Bu (Ed d'.toList) k = ex (.int .i64 (AW d'.toList (k / 8) (k % 8))):=by
     have:=It d'.toList (i:=k / 8) (j:=k % 8) (by rw [Array.length_toList];omega) (by omega)
     rwa [show k / 8*8+k % 8 = k by omega] at this
    refine ⟨.int .i64 (AW d'.toList (k / 8) (k % 8)),?_,rfl,by show (Bu (Ed d'.toList) k).rel s' _;rw [e5];rfl⟩
    have h6:k<cs.size:=by omega
    unfold putCells
    rw [Array.getElem?_mapIdx,Array.getElem?_eq_getElem h6]
    simp only [Option.map_some,size_flatK,hds']
    rw [if_pos (by omega),Nat.sub_zero,get_flatK _ _ _ _ (by omega),Oh _ (by omega)]
    congr 2
    rw [getElem!_pos d' (k / 8) (by omega),AW,List.getD_eq_getElem?_getD,List.getElem?_eq_getElem (by rw [Array.length_toList];omega)]
    simp
 ·match i,j,hi,hj with
  | 0,0,_,_=>exact absurd rfl hij
 ·match i,hi with
  | 0,hi =>
   cases hi
   obtain ⟨x,hx,e⟩:=hb
   rw [List.mem_singleton.1 hx] at e
   exact .inl ⟨0,_,rfl,⟨_,List.mem_cons_self,e⟩⟩
def NJ (a b:Nat→Int) (k j:Nat):Int:=if j<k then min (a j) (b j) else a j
theorem Sc (a b:Nat→Int) (k:Nat):FX (NJ a b k) k (min (a k) (b k)) = NJ a b (k+1):=by
 funext j
 simp only [FX,NJ]
 rcases Nat.lt_trichotomy j k with h | h | h
 ·rw [if_neg (by omega),if_pos h,if_pos (by omega)]
 ·subst h;simp
 ·rw [if_neg (by omega),if_neg (by omega),if_neg (by omega)]
theorem Ue (a b:Nat→Int) (k:Nat):NJ a b k k = a k:=if_neg (Nat.lt_irrefl k)
def Ug (a b:Nat→Int):Nat→Int:=fun j=>min (a j) (b j)
def Ni (a b:Nat→Int) (k j:Nat):Int:=if j<k then a j - b j else a j
theorem RQ (a b:Nat→Int) (k:Nat):FX (Ni a b k) k (a k - b k) = Ni a b (k+1):=by
 funext j
 simp only [FX,Ni]
 rcases Nat.lt_trichotomy j k with h | h | h
 ·rw [if_neg (by omega),if_pos h,if_pos (by omega)]
 ·subst h;simp
 ·rw [if_neg (by omega),if_neg (by omega),if_neg (by omega)]
theorem Tw (a b:Nat→Int) (k:Nat):Ni a b k k = a k:=if_neg (Nat.lt_irrefl k)
def A0v (a b:Nat→Int):Nat→Int:=fun j=>a j - b j
theorem Ul (a b:Nat→Int):Abs Tryz.prog 92 [BU (AM a),BU (AM b)] (BU (AM (Ug a b))):=by
 refine Ab Tryz.func92 fun s0=>?_
 rw [Tryz.ntmps92]
 apply Y1;refine Bx ?_;refine Bx ?_;refine Al ?_;refine Y0<|Aa<|Y1<|Wm<|Y0<|AWp.block ?_
 refine AK (fun mz σ=>∃ k,k≤8∧mz = 8 - k∧σ = ⟨[(2,.ptr 0 0),(3,.ptr 1 0),(4,.ptr 2 0),(6,.d (ex (.int .i64 (k:Nat))))],[.var 55 ((AM (NJ a b k)).map .d),.var 55 ((AM b).map .d),.var 55 ((AM fun _=>0).map .d)]⟩) ?le ⟨0,by omega,rfl,rfl⟩ ?round
 case le=>exact Ah (by exact Yp<|Yp<|Yp<|Yd<|FrLe.nil) (by exact Yv<|Yv<|Yv<|HpLe.nil)
 case round =>
  rintro mz _ ⟨k,hk,rfl,rfl⟩
  by_cases hlt:k<8
  ·have h1:=Ue a b k
   apply Y1;refine Wq Aq ?_;refine Y0<|Aa ?_;refine Ct ?_;refine Ys<|Aa<|AWp.block<|Y1<|Wm<|Wa<|Y0 ?_
   refine Dr [[],[],[(10,1)],[(11,2)],[],[(13,4)],[(14,5)],[(12,3),(15,6)],[(9,0)]] [[],[],[1],[1,2],[],[4],[4,5],[1,2,3,4,5,6],[0,1,2,3,4,5,6,7]] ?_
   refine Xq Am ?_;refine Xq Am ?_;refine Xq Cq ?_;refine Xq CA ?_;refine Xq Am ?_;refine Xq Cq ?_;refine Xq CA ?_;refine Xq YG ?_;refine Xq Cq ?_;refine ⟨_,rfl,?_⟩
   (refine Fy (ao rfl) (ao rfl) rfl (Ac rfl) (by first | exact CZ rfl | exact One.sl | exact EQ) (SetAt.mon (by first | omega | (simp;omega))) rfl ?_);apply AWl.nil;apply Aj;refine Yn<|AWp.region ?_;refine Wq AN ?_;refine Wm ?_;apply AWl.nil
   refine ALoop.next (8 - (k+1)) (by omega) ⟨k+1,by omega,rfl,rfl⟩ ?_
   exact Ah (by exact Yp<|Yp<|Yp<|Yd<|FrLe.nil) (by exact HpLe.cons (Dp (by rw [h1,Sc]))<|Yv<|Yv<|HpLe.nil)
  ·obtain rfl : k = 8 := by omega
   apply Y1;refine Wq As ?_;refine Y0<|Aa ?_;refine Cf ?_;apply AH;apply AA;apply AB;apply AC;refine Yn<|Y1 ?_;refine Wq AR ?_;refine Sf ?_;apply Y0;apply Aw
   exact BL (Rets.of1 (ResV.cell rfl rfl (Ac rfl) rfl rfl rfl) (D.le.refl _))
theorem Uk (a b:Nat→Int) (h:Dv b a) (hb:In8 b 0 100000) (ha:In8 a 0 100000):Abs Tryz.prog 91 [BU (AM a),BU (AM b)] (Dw [BU (AM (A0v a b)),ex (.bool true)]):=by
 refine Ab Tryz.func91 fun s0=>?_
 rw [Tryz.ntmps91]
 apply Y1;refine Bx ?_;refine Bx ?_;refine Al ?_;refine Wa<|Y0<|Aa<|Y1 ?_;refine Wq AR ?_;refine Wq AR ?_;refine Wq (Ao (NN b a h)) ?_;refine Wq Ea ?_;apply Y0;refine Cf ?_;refine Ys<|Aa<|Y1<|Wm<|Y0<|AWp.block ?_
 refine AK (fun mz σ=>∃ k,k≤8∧mz = 8 - k∧σ = ⟨[(2,.ptr 0 0),(3,.ptr 1 0),(4,.ptr 2 0),(12,.d (ex (.int .i64 (k:Nat))))],[.var 55 ((AM (Ni a b k)).map .d),.var 55 ((AM b).map .d),.var 55 ((AM fun _=>0).map .d)]⟩) ?le ⟨0,by omega,rfl,rfl⟩ ?round
 case le=>exact Ah (by exact Yp<|Yp<|Yp<|Yd<|FrLe.nil) (by exact Yv<|Yv<|Yv<|HpLe.nil)
 case round =>
  rintro mz _ ⟨k,hk,rfl,rfl⟩
  by_cases hlt:k<8
  ·have h1:=Tw a b k
   have g1:=ha k hlt
   have g2:=hb k hlt
   apply Y1;refine Wq Aq ?_;refine Y0<|Aa ?_;refine Ct ?_;refine Ys<|Aa<|AWp.block<|Y1<|Wm<|Wa<|Y0 ?_
   refine Dr [[],[(15,0)],[(16,1)],[],[(18,3)],[(19,4)],[(17,2),(20,5)],[(15,0)]] [[],[0],[0,1],[],[3],[3,4],[0,1,2,3,4,5],[0,1,2,3,4,5,6]] ?_
   refine Xq Am ?_;refine Xq Cq ?_;refine Xq CA ?_;refine Xq Am ?_;refine Xq Cq ?_;refine Xq CA ?_;refine Xq FO ?_;refine Xq Cq ?_;refine ⟨_,rfl,?_⟩
   (refine Fy (ao rfl) (ao rfl) rfl (Ac rfl) (by first | exact CZ rfl | exact One.sl | exact EQ) (SetAt.mon (by first | omega | (simp;omega))) rfl ?_);apply AWl.nil;apply Aj;refine Yn<|AWp.region ?_;refine Wq AN ?_;refine Wm ?_;apply AWl.nil
   refine ALoop.next (8 - (k+1)) (by omega) ⟨k+1,by omega,rfl,rfl⟩ ?_
   exact Ah (by exact Yp<|Yp<|Yp<|Yd<|FrLe.nil) (by exact HpLe.cons (Dp (by rw [h1,RQ]))<|Yv<|Yv<|HpLe.nil)
  ·obtain rfl : k = 8 := by omega
   apply Y1;refine Wq As ?_;refine Y0<|Aa ?_;refine Cf ?_;apply AH;apply AA;apply AB;apply AC;refine Yn<|Y1 ?_;refine Wq AR ?_;refine Sf ?_;refine Wa<|Y0 ?_;apply Aw
   exact BL (CL (ResV.cell rfl rfl (Ac rfl) rfl rfl rfl) (ResV.tmp rfl rfl) (Cn (D.le.refl _) (D.le.refl _)))
theorem Wj (a b:Nat→Int):Dv (Ug a b) a:=fun j _=>Int.min_le_left _ _
structure PureQ (P : Program) (hp:List Ow) (o:Oper) (arg:Operand→AV) (r:AV):Prop where
 run:∀ (base:Nat) (s:GS) (ρ:Nat→Value) (ev:Operand→Value),s.Ok→base≤s.w.heap.size→HpOk base ρ s hp→(∀ x,x∈o.op.operands→AVr hp.length ρ s (arg x) (ev x))→∃ v,(∀ w,(execOp ev o).run P w = .ok (.value v) w)∧AVr hp.length ρ s r v
section
variable {P : Program} {hp:List Ow} {o:Oper} {arg:Operand→AV}
theorem PureQ.move {x : Operand} {r:AV} (hop:o.op = .move x) (hx:arg x = r):PureQ P hp o arg r:=by
 subst hx
 exact ⟨fun base s ρ ev hok hbs hhp h=>⟨ev x,fun w=>by simp [execOp,hop],h x (by rw [hop];simp [Op.operands])⟩⟩
theorem PureQ.slice {x : Operand} {t:TypeId} {e n b n' b' T sz:Nat} {d:TypeDesc} {z z':Value} {lo hi:Option Operand} {rows:List (List D)} {i j:Int} (hop:o.op = .slice t x lo hi none) (hx:DV hp (arg x) = some (slD T sz rows)) (ht:Tab P t (.slice e) n b z) (he:Tab P e d n' b' z') (hsz:n' = sz) (hlo:(∃ y,lo = some y∧arg y = .d (ex (.int .i64 i)))∨(lo = none∧i = 0)) (hhi:(∃ y,hi = some y∧arg y = .d (ex (.int .i64 j)))∨(hi = none∧j = rows.length)) (h0:0≤i) (hij:i≤j) (hj:j≤rows.length):PureQ P hp o arg (.d (slD T sz ((rows.take j.toNat).drop i.toNat))):=by
 refine ⟨fun base s ρ ev hok hbs hhp h=>?_⟩
 obtain ⟨A,c,e1,h1,h2,h3⟩:=BI hhp (h x (by rw [hop];simp [Op.operands])) hx
 subst hsz
 obtain ⟨i,rfl⟩:=Int.eq_ofNat_of_zero_le h0
 obtain ⟨j,rfl⟩:=Int.eq_ofNat_of_zero_le (Int.le_trans h0 hij)
 have hij':i≤j:=by omega
 have hj':j≤rows.length:=by omega
 have elo:∃ lo',lo.map ev = lo'∧((lo' = some (.int .i64 i))∨(lo' = none∧i = 0)):=by
  rcases hlo with ⟨y,rfl,hy⟩ | ⟨rfl,hi0⟩
  ·have h5 := h y (by rw [hop]; simp [Op.operands])
   rw [hy] at h5
   exact ⟨_,rfl,.inl (by show some (ev y) = _;rw [show ev y = _ from h5])⟩
  ·exact ⟨_,rfl,.inr ⟨rfl,by omega⟩⟩
 have ehi:∃ hi',hi.map ev = hi'∧((hi' = some (.int .i64 j))∨(hi' = none∧j = rows.length)):=by
  rcases hhi with ⟨y,rfl,hy⟩ | ⟨rfl,hi0⟩
  ·have h5 := h y (by rw [hop]; simp [Op.operands])
   rw [hy] at h5
   exact ⟨_,rfl,.inl (by show some (ev y) = _;rw [show ev y = _ from h5])⟩
  ·exact ⟨_,rfl,.inr ⟨rfl,by omega⟩⟩
 obtain ⟨lo',l1,l2⟩:=elo
 obtain ⟨hi',r1,r2⟩:=ehi
 have hjc:(j:Int)≤c:=by omega
 have hic:(i:Int)≤j:=by omega
 have hb:∀ w,(Instr.sliceBounds true rows.length c lo' hi' none).run P w = .ok (i,j,c) w:=fun w=>by
  rcases l2 with rfl | ⟨rfl,rfl⟩ <;> rcases r2 with rfl | ⟨rfl,rfl⟩ <;> simp [Instr.sliceBounds,Instr.sliceBound,asIntOf,hjc,hic,hij',hj',h1]
  all_goals first | omega | simp [hij',hj',h1] | skip
 have hrun:∀ w,(execOp ev o).run P w = .ok (.value (.slice (if c = i then A else A.map (·.add (i*n'))) (j - i) (c - i))) w:=fun w=>by
  simp only [execOp,hop,l1,r1,e1,Option.map_none,Instr.sliceAt,Sem.run_bind,run_underlying ht.und,Result.andThen_ok,Instr.slice,hb,he.run_size,Sem.run_pure]
 have hlen:((rows.take (j:Int).toNat).drop (i:Int).toNat).length = j - i:=by simp;omega
 refine ⟨_,hrun,(if c = i then A else A.map (·.add (i*n'))),c - i,by rw [hlen],by rw [hlen];omega,by omega,fun hp=>?_⟩
 rw [hlen] at hp
 obtain ⟨g,p,rfl,h5⟩:=h3 (by omega)
 refine ⟨g,p+i*n',?_,fun k hk=>?_⟩
 ·rw [if_neg (by omega)]
  simp [Addr.add_lit]
 ·rw [hlen] at hk
  rw [show (j:Int).toNat = j from rfl,show (i:Int).toNat = i from rfl]
  rw [Ls,Lr (by omega)]
  have:=h5 (i+k) (by omega)
  rw [Nat.add_mul,← Nat.add_assoc] at this
  exact this
theorem OS {α : Type} {x y:Operand} {t:TypeId} {e n b n' b' T sz i:Nat} {d:TypeDesc} {z z':Value} {f:α→List D} {l:List α} (hop:o.op = .slice t x (some y) none none) (hx:DV hp (arg x) = some (slD T sz (l.map f))) (hy:arg y = .d (ex (.int .i64 (i:Nat)))) (ht:Tab P t (.slice e) n b z) (he:Tab P e d n' b' z') (hsz:n' = sz) (hi:i≤l.length):PureQ P hp o arg (.d (slD T sz ((l.drop i).map f))):=by
 have h:=PureQ.slice (P:=P) (hp:=hp) (i:=(i:Nat)) (j:=((l.map f).length:Nat)) hop hx ht he hsz (.inl ⟨y,rfl,hy⟩) (.inr ⟨rfl,rfl⟩) (by omega) (by simp;omega) (by omega)
 have e1:((l.map f).take (((l.map f).length:Nat):Int).toNat).drop ((i:Nat):Int).toNat = (l.drop i).map f:=by
  rw [show (((l.map f).length:Nat):Int).toNat = (l.map f).length from rfl,List.take_length,List.map_drop]
  rfl
 rwa [e1] at h
end
structure AWy (P : Program) (s0:An) (n:Nat) (ops:Array Oper) (Q:Exit→AS→Prop) (fuel:Nat) (listed:Array Bool) (σ:AS):Prop where
 run:∀ a w,St s0 n σ a w→wpAny P .any ops (ET s0 n (OnlyN Q)) fuel listed a w
def Nr (ops : Array Oper):Array Bool→List Nat→Bool
 | listed,[]=>Region.ready .any ops listed == []
 | listed,j :: js=>Region.ready .any ops listed == [j] && Nr ops (listed.setIfInBounds j true) js
def MJ (ops : Array Oper) (js:List Nat):Bool:=js.all fun j=>(ops[j]?).isSome
def KR (ops : Array Oper):List Nat→List Oper
 | []=>[]
 | j :: js=>match ops[j]? with
  | some o=>o :: KR ops js
  | none=>[]
theorem HD {ops : Array Oper}:∀ {js:List Nat},MJ ops js = true→js.map (fun j=>ops[j]?) = (KR ops js).map some
 | [],_=>rfl
 | j :: js,h=>by
  simp only [MJ,List.all_cons,Bool.and_eq_true] at h
  obtain ⟨o,ho⟩:=Option.isSome_iff_exists.1 h.1
  have ih:=HD (js:=js) h.2
  simp only [KR,ho,List.map_cons,ih]
section
variable {P : Program} {s0:An} {n:Nat} {ops:Array Oper} {Q:Exit→AS→Prop} {fr:List (Nat × AV)} {hp:List Ow}
theorem AWp.any {id : Nat} {l:List Oper} {σ:AS} (hm:P.follows .mixedOrders = true) (h:AWy P s0 n l.toArray Q l.toArray.size (Array.replicate l.toArray.size false) σ):AWp P s0 n (.region id l.toArray true) Q σ:=by
 refine ⟨fun a w ⟨s,ρ,hw,hst⟩=>?_⟩
 subst hw
 have hst':=hst.put (KF s) (dst:=none) (fun d hd=>by cases hd) (v:=undef) (r:=.d Ch) trivial
 have h1:=h.run a s.w.drew ⟨s.dr,ρ,rfl,hst'⟩
 exact wp_mono (wp_region_any hm h1) fun ex a' w' ⟨σ',hq,hs⟩=>by
  obtain ⟨rfl,hq⟩:=hq
  exact ⟨σ',hq,hs⟩
theorem Ew {fuel : Nat} {listed:Array Bool} (i:Nat) {o:Oper} {d:Nat} {r:AV} (hi:ops[i]? = some o) (hg:o.guard = none) (hdst:o.dst = some d) (hs:Region.noSelect ops = true) (hf:Region.free .any ops listed i = true) (hr:(Region.ready .any ops listed).contains i = true) (hd:Nat.blt d n = true) (hq:PureQ P hp o (AS.arg ⟨fr,hp⟩) r) (h:AWy P s0 n ops Q fuel (listed.setIfInBounds i true) ⟨(d,r) :: fr,hp⟩):AWy P s0 n ops Q (fuel+1) listed ⟨fr,hp⟩:=by
 refine ⟨fun a w ⟨s,ρ,hw,hst⟩=>?_⟩
 subst hw
 obtain ⟨v,h1,h2⟩:=hq.run 0 s ρ a.eval hst.ok (Nat.zero_le _) hst.hp fun x _=>hst.arg x
 have hst':=hst.put (GS.Le.refl s) (dst:=some d) (fun d' hd'=>by cases hd';simpa [Nat.blt_eq] using hd) h2
 refine wpAny_take hi hs hf hr (fun c a w h=>?_) (.inl ⟨by simp [Region.wanted,hg],h1⟩) ?_
 ·obtain ⟨_,h,_⟩:=h
  have:=h.how
  cases this
 ·rw [hdst]
  exact h.run _ _ ⟨s,ρ,rfl,hst'⟩
theorem HC {ops : Array Oper} {Q:Exit→Act→World→Prop}:∀ (js:List Nat) (L:List Oper) (listed:Array Bool) (a:Act) (w:World),Nr ops listed js = true→js.map (fun j=>ops[j]?) = L.map some→wpList P ops Q L a w→wpAny P .any ops Q js.length listed a w
 | [],[],listed,a,w,hs,_,h=>⟨by simpa [Nr] using hs,h⟩
 | [],_ :: _,_,_,_,_,hl,_=>by simp at hl
 | _ :: _,[],_,_,_,_,hl,_=>by simp at hl
 | j :: js,o :: L,listed,a,w,hs,hl,h=>by
  simp only [Nr,Bool.and_eq_true,beq_iff_eq] at hs
  simp only [List.map_cons,List.cons.injEq] at hl
  refine wpAny_all hs.1 (by simp) fun i hi=>?_
  obtain rfl:i = j:=by simpa using hi
  unfold wpList at h
  unfold wpOp
  rw [hl.1]
  simp only
  split
  ·rename_i hw
   rw [if_pos hw] at h
   exact h.imp (Oper.wp_mono fun a w h=>HC js L _ a w hs.2 hl.2 h) fun h=>h
  ·rename_i hw
   rw [if_neg hw] at h
   exact HC js L _ _ w hs.2 hl.2 h
theorem AWy.seq {fuel : Nat} {listed:Array Bool} {σ:AS} (js:List Nat) (hs:Nr ops listed js = true) (hl:MJ ops js = true) (hf:fuel = js.length) (h:AWl P s0 n ops (OnlyN Q) (KR ops js) σ):AWy P s0 n ops Q fuel listed σ:=by
 subst hf
 exact ⟨fun a w hst=>HC js _ listed a w hs (HD hl) (h.run a w hst)⟩
end
end Go.Proofs.YtialdhnijjnpaaaGreat
