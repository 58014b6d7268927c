/- Part 18 of the proof of hilbertStandards_holds. No condition. -/
import Derived.Test.YtialdhnijjnpaaaGreatQf2
import Derived.Test.YtialdhnijjnpaaaGreatQf17
set_option linter.unusedSimpArgs false
set_option linter.unusedVariables false
set_option maxRecDepth 100000
namespace Go.Proofs.YtialdhnijjnpaaaGreat
open Go.RowKit
def BF (ms : Af):D:=slD 55 8 (ms.map AE)
def AC (ms : Af) (k:Nat):Nat→Int:=ms.getD k default
theorem EW {ms : Af} {k:Nat} (h:k<ms.length):AC ms k∈ms:=by
 rw [AC,List.getD_eq_getElem?_getD,List.getElem?_eq_getElem h]
 exact List.getElem_mem _
theorem Uy : ∀ {l l':Af},SameM l l'→BF l = BF l':=fun {l l'} h=>by
 have key:∀ {l l':Af},SameM l l'→l.map AE = l'.map AE:=by
  intro l
  induction l with
  | nil =>
   intro l' h
   cases l' with
   | nil=>rfl
   | cons b l'=>exact h.elim
  | cons a l ih =>
   intro l' h
   cases l' with
   | nil=>exact h.elim
   | cons b l'=>rw [List.map_cons,List.map_cons,NT h.1,ih h.2]
 rw [BF,BF,key h]
theorem IK (p : Nat→Prop):∀ n,(∀ k,k<n→p k)∨∃ z,z<n∧(∀ k,k<z→p k)∧¬ p z
 | 0=>.inl fun k h=>absurd h (Nat.not_lt_zero k)
 | n+1=>by
  rcases IK p n with h | ⟨z,h1,h2,h3⟩
  ·rcases Classical.em (p n) with hn | hn
   ·refine .inl fun k hk=>?_
    by_cases e:k = n
    ·subst e;exact hn
    ·exact h k (by omega)
   ·exact .inr ⟨n,by omega,h,hn⟩
  ·exact .inr ⟨z,by omega,h2,h3⟩
theorem Oa (a b:Nat→Int) (h:Dv a b):Abs Tryz.prog 122 [BK (AE a),BK (AE b)] (ex (.bool true)):=by
 refine Ab Tryz.func122 fun s0=>?_
 rw [Tryz.ntmps122]
 apply Y1;refine Bx ?_;refine Bx ?_;refine Wa<|Y0<|Aa<|Y1<|Wm<|Y0<|AWp.block ?_
 refine AK (fun mz σ=>∃ k,k≤8∧mz = 8 - k∧σ = ⟨[(2,.ptr 0 0),(3,.ptr 1 0),(6,.d (ex (.int .i64 (k:Nat))))],[.var 55 ((AE a).map .d),.var 55 ((AE b).map .d)]⟩) ?le ⟨0,by omega,rfl,rfl⟩ ?round
 case le=>exact Ag (by exact Yp<|Yp<|Yd<|FrLe.nil) (by exact Yv<|Yv<|HpLe.nil)
 case round =>
  rintro mz _ ⟨k,hk,rfl,rfl⟩
  by_cases hlt:k<8
  ·have h1:=h k hlt
   apply Y1;refine Wq Ar ?_;refine Y0<|Aa ?_;refine Ct ?_;refine Ys<|Aa<|AWp.block<|Y1<|Wm<|Wa<|Y0<|Aa ?_
   refine Dr [[],[(9,0)],[(10,1)],[],[(12,3)],[(13,4)],[(11,2),(14,5)]] [[],[0],[0,1],[],[3],[3,4],[0,1,2,3,4,5]] ?_
   refine Xq Ae ?_;refine Xq AQ ?_;refine Xq Bg ?_;refine Xq Ae ?_;refine Xq AQ ?_;refine Xq Bg ?_;refine Xq Aq ?_;refine ⟨_,rfl,?_⟩
   apply Y0;refine Cf ?_;apply Bf;apply Ah;refine Yn<|AWp.region ?_;refine Wq AG ?_;refine Wm ?_;apply AWl.nil
   refine ALoop.next (8 - (k+1)) (by omega) ⟨k+1,by omega,rfl,rfl⟩ ?_
   exact Ag (by exact Yp<|Yp<|Yd<|FrLe.nil) (by exact Yv<|Yv<|HpLe.nil)
  ·obtain rfl : k = 8 := by omega
   apply Y1;refine Wq Aq ?_;refine Y0<|Aa ?_;refine Cf ?_;apply AF;apply Az;apply AA;apply AB;refine Yn<|Y1<|Wa<|Y0 ?_;apply Aw
   exact Yf
theorem UH (a b:Nat→Int) (z:Nat) (hz:z<8) (h:∀ j,j<z→a j≤b j) (hbad:b z<a z):Abs Tryz.prog 122 [BK (AE a),BK (AE b)] (ex (.bool false)):=by
 refine Ab Tryz.func122 fun s0=>?_
 rw [Tryz.ntmps122]
 apply Y1;refine Bx ?_;refine Bx ?_;refine Wa<|Y0<|Aa<|Y1<|Wm<|Y0<|AWp.block ?_
 refine AK (fun mz σ=>∃ k,k≤z∧mz = z - k∧σ = ⟨[(2,.ptr 0 0),(3,.ptr 1 0),(6,.d (ex (.int .i64 (k:Nat))))],[.var 55 ((AE a).map .d),.var 55 ((AE b).map .d)]⟩) ?le ⟨0,by omega,rfl,rfl⟩ ?round
 case le=>exact Ag (by exact Yp<|Yp<|Yd<|FrLe.nil) (by exact Yv<|Yv<|HpLe.nil)
 case round =>
  rintro mz _ ⟨k,hk,rfl,rfl⟩
  by_cases hlt:k<z
  ·have h1:=h k hlt
   have h8:k<8:=by omega
   apply Y1;refine Wq Ar ?_;refine Y0<|Aa ?_;refine Ct ?_;refine Ys<|Aa<|AWp.block<|Y1<|Wm<|Wa<|Y0<|Aa ?_
   refine Dr [[],[(9,0)],[(10,1)],[],[(12,3)],[(13,4)],[(11,2),(14,5)]] [[],[0],[0,1],[],[3],[3,4],[0,1,2,3,4,5]] ?_
   refine Xq Ae ?_;refine Xq AQ ?_;refine Xq Bg ?_;refine Xq Ae ?_;refine Xq AQ ?_;refine Xq Bg ?_;refine Xq Aq ?_;refine ⟨_,rfl,?_⟩
   apply Y0;refine Cf ?_;apply Bf;apply Ah;refine Yn<|AWp.region ?_;refine Wq AG ?_;refine Wm ?_;apply AWl.nil
   refine ALoop.next (z - (k+1)) (by omega) ⟨k+1,by omega,rfl,rfl⟩ ?_
   exact Ag (by exact Yp<|Yp<|Yd<|FrLe.nil) (by exact Yv<|Yv<|HpLe.nil)
  ·obtain rfl : z = k := by omega
   apply Y1;refine Wq Ar ?_;refine Y0<|Aa ?_;refine Ct ?_;refine Ys<|Aa<|AWp.block<|Y1<|Wm<|Wa<|Y0<|Aa ?_
   refine Dr [[],[(9,0)],[(10,1)],[],[(12,3)],[(13,4)],[(11,2),(14,5)]] [[],[0],[0,1],[],[3],[3,4],[0,1,2,3,4,5]] ?_
   refine Xq Ae ?_;refine Xq AQ ?_;refine Xq Bg ?_;refine Xq Ae ?_;refine Xq AQ ?_;refine Xq Bg ?_;refine Xq Ar ?_;refine ⟨_,rfl,?_⟩
   apply Y0;refine Ct ?_;refine Y1<|Wa<|Y0 ?_;apply Aw;apply Bv;apply Bc;apply CY;apply Bv;apply Bc
   exact Yf
theorem Ue (a b:Nat→Int) (h:Dv a b):Abs Tryz.prog 77 [BK (AE a),BK (AE b)] (ex (.bool true)):=by
 refine Ab Tryz.func77 fun s0=>?_
 rw [Tryz.ntmps77]
 apply Y1;refine Bx ?_;refine Bx ?_;refine Wa<|Y0<|Aa<|Y1<|Wa<|Y0<|AWp.block ?_
 refine AK (fun mz σ=>∃ k,k≤8∧mz = 8 - k∧σ = ⟨[(2,.ptr 0 0),(3,.ptr 1 0),(5,.d (ex (.int .i64 (k:Nat))))],[.var 55 ((AE a).map .d),.var 55 ((AE b).map .d)]⟩) ?le ⟨0,by omega,rfl,rfl⟩ ?round
 case le=>exact Ag (by exact Yp<|Yp<|Yd<|FrLe.nil) (by exact Yv<|Yv<|HpLe.nil)
 case round =>
  rintro mz _ ⟨k,hk,rfl,rfl⟩
  by_cases hlt:k<8
  ·have h1:=h k hlt
   refine Aa<|Y1<|Wm ?_;refine Wq Ar ?_;apply Y0;refine Ct ?_;refine Ys<|Aa<|AWp.block<|Aa ?_
   refine Dr [[],[(10,0)],[(11,1)],[],[(13,3)],[(14,4)],[(12,2),(15,5)]] [[],[0],[0,1],[],[3],[3,4],[0,1,2,3,4,5]] ?_
   refine Xq Ae ?_;refine Xq AQ ?_;refine Xq Bg ?_;refine Xq Ae ?_;refine Xq AQ ?_;refine Xq Bg ?_;refine Xq Aq ?_;refine ⟨_,rfl,?_⟩
   apply Y0;refine Cf ?_;apply Bf;apply Ah;refine Yn<|AWp.region<|Wm ?_;refine Wq AG ?_;refine Wa ?_;apply AWl.nil
   refine ALoop.next (8 - (k+1)) (by omega) ⟨k+1,by omega,rfl,rfl⟩ ?_
   exact Ag (by exact Yp<|Yp<|Yd<|FrLe.nil) (by exact Yv<|Yv<|HpLe.nil)
  ·obtain rfl : k = 8 := by omega
   refine Aa<|Y1<|Wm ?_;refine Wq Aq ?_;apply Y0;refine Cf ?_;apply AF;apply Az;apply AA;apply AB;refine Yn<|Y1<|Wa<|Y0 ?_;apply Aw
   exact Yf
theorem Uf (a b:Nat→Int) (z:Nat) (hz:z<8) (h:∀ j,j<z→a j≤b j) (hbad:b z<a z):Abs Tryz.prog 77 [BK (AE a),BK (AE b)] (ex (.bool false)):=by
 refine Ab Tryz.func77 fun s0=>?_
 rw [Tryz.ntmps77]
 apply Y1;refine Bx ?_;refine Bx ?_;refine Wa<|Y0<|Aa<|Y1<|Wa<|Y0<|AWp.block ?_
 refine AK (fun mz σ=>∃ k,k≤z∧mz = z - k∧σ = ⟨[(2,.ptr 0 0),(3,.ptr 1 0),(5,.d (ex (.int .i64 (k:Nat))))],[.var 55 ((AE a).map .d),.var 55 ((AE b).map .d)]⟩) ?le ⟨0,by omega,rfl,rfl⟩ ?round
 case le=>exact Ag (by exact Yp<|Yp<|Yd<|FrLe.nil) (by exact Yv<|Yv<|HpLe.nil)
 case round =>
  rintro mz _ ⟨k,hk,rfl,rfl⟩
  by_cases hlt:k<z
  ·have h1:=h k hlt
   have h8:k<8:=by omega
   refine Aa<|Y1<|Wm ?_;refine Wq Ar ?_;apply Y0;refine Ct ?_;refine Ys<|Aa<|AWp.block<|Aa ?_
   refine Dr [[],[(10,0)],[(11,1)],[],[(13,3)],[(14,4)],[(12,2),(15,5)]] [[],[0],[0,1],[],[3],[3,4],[0,1,2,3,4,5]] ?_
   refine Xq Ae ?_;refine Xq AQ ?_;refine Xq Bg ?_;refine Xq Ae ?_;refine Xq AQ ?_;refine Xq Bg ?_;refine Xq Aq ?_;refine ⟨_,rfl,?_⟩
   apply Y0;refine Cf ?_;apply Bf;apply Ah;refine Yn<|AWp.region<|Wm ?_;refine Wq AG ?_;refine Wa ?_;apply AWl.nil
   refine ALoop.next (z - (k+1)) (by omega) ⟨k+1,by omega,rfl,rfl⟩ ?_
   exact Ag (by exact Yp<|Yp<|Yd<|FrLe.nil) (by exact Yv<|Yv<|HpLe.nil)
  ·obtain rfl : z = k := by omega
   refine Aa<|Y1<|Wm ?_;refine Wq Ar ?_;apply Y0;refine Ct ?_;refine Ys<|Aa<|AWp.block<|Aa ?_
   refine Dr [[],[(10,0)],[(11,1)],[],[(13,3)],[(14,4)],[(12,2),(15,5)]] [[],[0],[0,1],[],[3],[3,4],[0,1,2,3,4,5]] ?_
   refine Xq Ae ?_;refine Xq AQ ?_;refine Xq Bg ?_;refine Xq Ae ?_;refine Xq AQ ?_;refine Xq Bg ?_;refine Xq Ar ?_;refine ⟨_,rfl,?_⟩
   apply Y0;refine Ct ?_;refine Y1<|Wa<|Y0 ?_;apply Aw;apply Bv;apply Bc;apply CY;apply Bv;apply Bc
   exact Yf
theorem Yo (a b:Nat→Int):(Dv a b∧GD 8 0 a b = true)∨(GD 8 0 a b = false∧∃ z,z<8∧(∀ j,j<z→a j≤b j)∧b z<a z):=by
 rcases IK (fun j=>a j≤b j) 8 with h | ⟨z,h1,h2,h3⟩
 ·exact .inl ⟨h,OA.2 h⟩
 ·exact .inr ⟨Bool.eq_false_iff.2 fun h=>h3 (OA.1 h z h1),z,h1,h2,by omega⟩
theorem MK (a b:Nat→Int):Abs Tryz.prog 122 [BK (AE a),BK (AE b)] (ex (.bool (GD 8 0 a b))):=by
 rcases Yo a b with ⟨h,e⟩ | ⟨e,z,h1,h2,h3⟩
 ·rw [e];exact Oa a b h
 ·rw [e];exact UH a b z h1 h2 h3
theorem My (a b:Nat→Int):Abs Tryz.prog 77 [BK (AE a),BK (AE b)] (ex (.bool (GD 8 0 a b))):=by
 rcases Yo a b with ⟨h,e⟩ | ⟨e,z,h1,h2,h3⟩
 ·rw [e];exact Ue a b h
 ·rw [e];exact Uf a b z h1 h2 h3
theorem Yl (l : Af) (x:Nat→Int):(inB l x = false∧∀ k,k<l.length→GD 8 0 (AC l k) x = false)∨(inB l x = true∧∃ z,z<l.length∧(∀ k,k<z→GD 8 0 (AC l k) x = false)∧GD 8 0 (AC l z) x = true):=by
 rcases IK (fun k=>GD 8 0 (AC l k) x = false) l.length with h | ⟨z,h1,h2,h3⟩
 ·refine .inl ⟨Bool.eq_false_iff.2 fun hi=>?_,h⟩
  obtain ⟨a,ha,hd⟩:=CR.1 hi
  obtain ⟨k,hk,rfl⟩:=List.getElem_of_mem ha
  have:=h k hk
  rw [AC,List.getD_eq_getElem?_getD,List.getElem?_eq_getElem hk] at this
  rw [Option.getD_some,OA.2 hd] at this
  cases this
 ·have h4 : GD 8 0 (AC l z) x = true := by cases hb : GD 8 0 (AC l z) x <;> simp_all
  exact .inr ⟨CR.2 ⟨_,EW h1,OA.1 h4⟩,z,h1,h2,h4⟩
theorem Jw (x : Nat→Int) (l:Af) (hn:l.length≤1000000):Abs Tryz.prog 71 [BK (AE x),BF l] (ex (.bool (inB l x))):=by
 rcases Yl l x with ⟨e,h⟩ | ⟨e,z,h1,h2,h3⟩
 ·rw [e]
  refine Ab Tryz.func71 fun s0=>?_
  rw [Tryz.ntmps71]
  apply Y1;refine Bx ?_;refine Wa<|Y0<|Aa<|Y1<|Wm ?_;refine Wq Ca ?_;refine Wm<|Y0<|AWp.block ?_
  refine AK (fun mz σ=>∃ k,k≤l.length∧mz = l.length - k∧σ = ⟨[(2,.ptr 0 0),(7,.d (BF l)),(8,.d (ex (.int .i64 (l.length:Nat)))),(9,.d (ex (.int .i64 (k:Nat))))],[.var 55 ((AE x).map .d)]⟩) ?le ⟨0,by omega,rfl,rfl⟩ ?round
  case le=>exact Ag (by exact Yp<|Yd<|Yd<|Yd<|FrLe.nil) (by exact Yv<|HpLe.nil)
  case round =>
   rintro mz _ ⟨k,hk,rfl,rfl⟩
   by_cases hlt:k<l.length
   ·have ck:=MK (AC l k) x
    rw [h k hlt] at ck
    apply Y1;refine Wq Ar ?_;refine Y0<|Aa ?_;refine Ct ?_;refine Ys<|Aa<|AWp.block<|Y1 ?_;refine Wq Bd ?_;refine Wq AR ?_;refine Al ?_;refine Sf ?_;refine Y0<|Y1 ?_;refine Wq AL ?_;refine Wq AL ?_;refine Wq (Am (ck)) ?_;apply Y0;refine Cf ?_;apply Bf;apply Ah;refine Yn<|AWp.region ?_;refine Wq AG ?_;refine Wm ?_;apply AWl.nil
    refine ALoop.next (l.length - (k+1)) (by omega) ⟨k+1,by omega,rfl,rfl⟩ ?_
    exact Ag (by exact Yp<|Yd<|Yd<|Yd<|FrLe.nil) (by exact Yv<|HpLe.nil)
   ·obtain rfl : k = l.length := by omega
    apply Y1;refine Wq Aq ?_;refine Y0<|Aa ?_;refine Cf ?_;apply AF;apply Az;apply AA;apply AB;refine Yn<|Y1<|Wa<|Y0 ?_;apply Aw
    exact Yf
 ·rw [e]
  refine Ab Tryz.func71 fun s0=>?_
  rw [Tryz.ntmps71]
  apply Y1;refine Bx ?_;refine Wa<|Y0<|Aa<|Y1<|Wm ?_;refine Wq Ca ?_;refine Wm<|Y0<|AWp.block ?_
  refine AK (fun mz σ=>∃ k,k≤z∧mz = z - k∧σ = ⟨[(2,.ptr 0 0),(7,.d (BF l)),(8,.d (ex (.int .i64 (l.length:Nat)))),(9,.d (ex (.int .i64 (k:Nat))))],[.var 55 ((AE x).map .d)]⟩) ?le ⟨0,by omega,rfl,rfl⟩ ?round
  case le=>exact Ag (by exact Yp<|Yd<|Yd<|Yd<|FrLe.nil) (by exact Yv<|HpLe.nil)
  case round =>
   rintro mz _ ⟨k,hk,rfl,rfl⟩
   by_cases hlt:k<z
   ·have hkl : k < l.length := by omega
    have ck:=MK (AC l k) x
    rw [h2 k hlt] at ck
    apply Y1;refine Wq Ar ?_;refine Y0<|Aa ?_;refine Ct ?_;refine Ys<|Aa<|AWp.block<|Y1 ?_;refine Wq Bd ?_;refine Wq AR ?_;refine Al ?_;refine Sf ?_;refine Y0<|Y1 ?_;refine Wq AL ?_;refine Wq AL ?_;refine Wq (Am (ck)) ?_;apply Y0;refine Cf ?_;apply Bf;apply Ah;refine Yn<|AWp.region ?_;refine Wq AG ?_;refine Wm ?_;apply AWl.nil
    refine ALoop.next (z - (k+1)) (by omega) ⟨k+1,by omega,rfl,rfl⟩ ?_
    exact Ag (by exact Yp<|Yd<|Yd<|Yd<|FrLe.nil) (by exact Yv<|HpLe.nil)
   ·obtain rfl : z = k := by omega
    have ck:=MK (AC l z) x
    rw [h3] at ck
    apply Y1;refine Wq Ar ?_;refine Y0<|Aa ?_;refine Ct ?_;refine Ys<|Aa<|AWp.block<|Y1 ?_;refine Wq Bd ?_;refine Wq AR ?_;refine Al ?_;refine Sf ?_;refine Y0<|Y1 ?_;refine Wq AL ?_;refine Wq AL ?_;refine Wq (Am (ck)) ?_;apply Y0;refine Ct ?_;refine Y1<|Wa<|Y0 ?_;apply Aw;apply Bv;apply Bc;apply CY;apply Bv;apply Bc
    exact Yf
theorem Jp (x : Nat→Int) (l:Af) (hn:l.length≤1000000):Abs Tryz.prog 34 [BK (AE x),BF l] (ex (.bool (inB l x))):=by
 rcases Yl l x with ⟨e,h⟩ | ⟨e,z,h1,h2,h3⟩
 ·rw [e]
  refine Ab Tryz.func34 fun s0=>?_
  rw [Tryz.ntmps34]
  apply Y1;refine Bx ?_;refine Wa<|Y0<|Aa<|Y1<|Wa<|Y0<|AWp.block ?_
  refine AK (fun mz σ=>∃ k,k≤l.length∧mz = l.length - k∧σ = ⟨[(1,.d (BF l)),(2,.ptr 0 0),(5,.d (ex (.int .i64 (k:Nat))))],[.var 55 ((AE x).map .d)]⟩) ?le ⟨0,by omega,rfl,rfl⟩ ?round
  case le=>exact Ag (by exact Yd<|Yp<|Yd<|FrLe.nil) (by exact Yv<|HpLe.nil)
  case round =>
   rintro mz _ ⟨k,hk,rfl,rfl⟩
   by_cases hlt:k<l.length
   ·have ck:=My (AC l k) x
    rw [h k hlt] at ck
    refine Aa<|Y1<|Wm<|Wm ?_;refine Wq Ca ?_;refine Wq Ar ?_;apply Y0;refine Ct ?_;refine Ys<|Aa<|AWp.block<|Aa ?_
    refine Dr [[],[],[(12,0),(13,1)],[(14,2)],[],[(15,3),(16,4)]] [[],[],[0,1],[0,1,2],[],[0,1,2,3,4]] ?_
    refine Xq Ae ?_;refine Xq Ae ?_;refine Xq Bd ?_;refine Xq AR ?_;refine Xq AL ?_;refine Xq (Am (ck)) ?_;refine ⟨_,rfl,?_⟩
    apply Y0;refine Cf ?_;apply Bf;apply Ah;refine Yn<|AWp.region<|Wm ?_;refine Wq AG ?_;refine Wa ?_;apply AWl.nil
    refine ALoop.next (l.length - (k+1)) (by omega) ⟨k+1,by omega,rfl,rfl⟩ ?_
    exact Ag (by exact Yd<|Yp<|Yd<|FrLe.nil) (by exact Yv<|HpLe.nil)
   ·obtain rfl : k = l.length := by omega
    refine Aa<|Y1<|Wm<|Wm ?_;refine Wq Ca ?_;refine Wq Aq ?_;apply Y0;refine Cf ?_;apply AF;apply Az;apply AA;apply AB;refine Yn<|Y1<|Wa<|Y0 ?_;apply Aw
    exact Yf
 ·rw [e]
  refine Ab Tryz.func34 fun s0=>?_
  rw [Tryz.ntmps34]
  apply Y1;refine Bx ?_;refine Wa<|Y0<|Aa<|Y1<|Wa<|Y0<|AWp.block ?_
  refine AK (fun mz σ=>∃ k,k≤z∧mz = z - k∧σ = ⟨[(1,.d (BF l)),(2,.ptr 0 0),(5,.d (ex (.int .i64 (k:Nat))))],[.var 55 ((AE x).map .d)]⟩) ?le ⟨0,by omega,rfl,rfl⟩ ?round
  case le=>exact Ag (by exact Yd<|Yp<|Yd<|FrLe.nil) (by exact Yv<|HpLe.nil)
  case round =>
   rintro mz _ ⟨k,hk,rfl,rfl⟩
   by_cases hlt:k<z
   ·have hkl : k < l.length := by omega
    have ck:=My (AC l k) x
    rw [h2 k hlt] at ck
    refine Aa<|Y1<|Wm<|Wm ?_;refine Wq Ca ?_;refine Wq Ar ?_;apply Y0;refine Ct ?_;refine Ys<|Aa<|AWp.block<|Aa ?_
    refine Dr [[],[],[(12,0),(13,1)],[(14,2)],[],[(15,3),(16,4)]] [[],[],[0,1],[0,1,2],[],[0,1,2,3,4]] ?_
    refine Xq Ae ?_;refine Xq Ae ?_;refine Xq Bd ?_;refine Xq AR ?_;refine Xq AL ?_;refine Xq (Am (ck)) ?_;refine ⟨_,rfl,?_⟩
    apply Y0;refine Cf ?_;apply Bf;apply Ah;refine Yn<|AWp.region<|Wm ?_;refine Wq AG ?_;refine Wa ?_;apply AWl.nil
    refine ALoop.next (z - (k+1)) (by omega) ⟨k+1,by omega,rfl,rfl⟩ ?_
    exact Ag (by exact Yd<|Yp<|Yd<|FrLe.nil) (by exact Yv<|HpLe.nil)
   ·obtain rfl : z = k := by omega
    have ck:=My (AC l z) x
    rw [h3] at ck
    refine Aa<|Y1<|Wm<|Wm ?_;refine Wq Ca ?_;refine Wq Ar ?_;apply Y0;refine Ct ?_;refine Ys<|Aa<|AWp.block<|Aa ?_
    refine Dr [[],[],[(12,0),(13,1)],[(14,2)],[],[(15,3),(16,4)]] [[],[],[0,1],[0,1,2],[],[0,1,2,3,4]] ?_
    refine Xq Ae ?_;refine Xq Ae ?_;refine Xq Bd ?_;refine Xq AR ?_;refine Xq AL ?_;refine Xq (Am (ck)) ?_;refine ⟨_,rfl,?_⟩
    apply Y0;refine Ct ?_;refine Y1<|Wa<|Y0 ?_;apply Aw;apply Bv;apply Bc;apply CY;apply Bv;apply Bc
    exact Yf
end Go.Proofs.YtialdhnijjnpaaaGreat
namespace Go.Proofs.YtialdhnijjnpaaaGreat
open Go.RowKit Go.Sort
def HC (x : Nat→Int):List Value:=(c8 x).toList
def cfM (x y:Nat→Int):Int:=Eu x y
theorem Kh (a b:Nat→Int):lx a b = Eu a b:=by simp [lx,EV,EP]
theorem Oz (x : Nat→Int) {j:Nat} (h:j<8):(HC x)[j]! = .int .i64 (x j):=by
 rcases lt8 h with rfl | rfl | rfl | rfl | rfl | rfl | rfl | rfl <;> rfl
theorem Wj : SWO (ltOf cfM) where
 irrefl x:=by
  have:=ML x
  rw [Kh] at this
  simp [ltOf,cfM,this]
 trans x y z h1 h2:=by
  have h1:Eu x y<0:=of_decide_eq_true h1
  have h2:Eu y z<0:=of_decide_eq_true h2
  show decide (Eu x z<0) = true
  rw [decide_eq_true_eq]
  rw [← Kh] at h1 h2 ⊢
  have:=UJ (a:=z) (b:=y) (c:=x) (by rw [Es];omega) (by rw [Es];omega)
  rw [Es]
  omega
 ntrans x y z h1 h2:=by
  have h1:¬ Eu x y<0:=of_decide_eq_false h1
  have h2:¬ Eu y z<0:=of_decide_eq_false h2
  show decide (Eu x z<0) = false
  rw [decide_eq_false_iff_not]
  have:=(Ht (R:=[]) (a:=x) (b:=y) (c:=z) (by rw [show EV [] x y = Eu x y from Kh x y];omega) (by rw [show EV [] y z = Eu y z from Kh y z];omega)).1
  rw [show EV [] x z = Eu x z from Kh x z] at this
  omega
theorem Tb (g c:Nat) (d:Array (Nat→Int)) (w:World) (hH:HoldsK HC 8 w g 0 d) (hgl:g<w.heap.size) (hn:d.size<4611686018427387904) :
  Calls Tryz.prog 124 #[.slice (some ⟨g,0,none⟩) d.size c,.func (.func 74) #[] #[]] w fun e w'=>e = .returned (.tuple #[])∧∃ d' m os,PermIn 0 d.size d d'∧SortedIn (ltOf cfM) 0 d.size d'∧w' = sortWorldK HC 8 w g 0 m d' os:=by
 have eg:∀ args w,(callFunc 74 args).run Tryz.prog w = .ok (.enter 74 args) w:=enters_of Tryz.func74 (by kernel_rfl) rfl
 have hcmp:CmpLays Tryz.prog 74 #[] HC 8 cfM g 0 d.size w:=fun m os dk hdk x y=>(Sz x y _).mono fun e w' ⟨he,hg⟩=>⟨he,hg.grow⟩
 refine (AnyQ.slices_SortFunc Tryz.sortMono 8 Tryz.isAgg55 Tryz.sizeOf55 HC (fun _=>rfl) (fun x v hv=>by simp [HC,c8] at hv;rcases hv with rfl | rfl | rfl | rfl | rfl | rfl | rfl | rfl <;> rfl) cfM Wj 74 #[] g 0 c d w eg hcmp hH hgl hn).mono ?_
 rintro e w' ⟨rfl,d',q,os,hp,hs,rfl⟩
 exact ⟨rfl,d',q,os,hp,hs,rfl⟩
def En (l : Af):List D:=(l.map AE).flatten
theorem De : ∀ l:Af,(En l).length = l.length*8
 | []=>rfl
 | a :: l=>by
  show (AE a ++ En l).length = _
  rw [List.length_append,De l,List.length_cons,Nat.succ_mul,Nat.add_comm]
  rfl
theorem II : ∀ (l:Af) {i j:Nat},i<l.length→j<8→By (En l) (i*8+j) = ex (.int .i64 (AC l i j))
 | a :: l,0,j,_,hj=>by
  show By (AE a ++ En l) (0*8+j) = _
  rw [Nat.zero_mul,Nat.zero_add]
  have:By (AE a ++ En l) j = By (AE a) j:=by
   simp only [By]
   rw [List.getD_eq_getElem?_getD,List.getD_eq_getElem?_getD,List.getElem?_append_left (by rw [Cr];exact hj)]
  rw [this,Ic hj]
  rfl
 | a :: l,i+1,j,hi,hj=>by
  have ih:=II l (i:=i) (j:=j) (by simpa using hi) hj
  show By (AE a ++ En l) ((i+1)*8+j) = _
  have:By (AE a ++ En l) ((i+1)*8+j) = By (En l) (i*8+j):=by
   simp only [By]
   rw [List.getD_eq_getElem?_getD,List.getD_eq_getElem?_getD,List.getElem?_append_right (by rw [Cr];omega),Cr,show (i+1)*8+j - 8 = i*8+j by omega]
  rw [this,ih]
  rfl
theorem Ly (l : Af) (g c:Nat) (hn:l.length≤1000000):Con Tryz.prog 124 [.d (sX g l.length c),.d (ex (.func (.func 74) #[] #[]))] [.obj (Bj [⟨g,55,En l⟩])] []
  (fun r hp'=>∃ s:Af,s.Perm l∧(s.Pairwise fun a b=>lx a b≤0)∧r = .d Ch∧hp' = [.obj (Bj [⟨g,55,En s⟩])]):=by
 refine ⟨As Tryz.func124 (by kernel_rfl) (by kernel_rfl),fun s ρ vs hok hhp hsep hl hv=>?_⟩
 have e1:vs.getD 0 undef = .slice (some ⟨g,0,none⟩) l.length c:=hv 0 _ rfl
 have e2:vs.getD 1 undef = .func (.func 74) #[] #[]:=hv 1 _ rfl
 have evs:vs.toArray = #[.slice (some ⟨g,0,none⟩) l.length c,.func (.func 74) #[] #[]]:=by
  match vs,hl with
  | [a,b],_ =>
   have e1:a = _:=e1
   have e2:b = _:=e2
   rw [e1,e2]
 obtain ⟨h1,_⟩:=Du (hhp 0 _ rfl)
 obtain ⟨hT,hS,cs,hg,hlc,hcd⟩:=h1 _ List.mem_cons_self
 replace hS:∀ k,¬ s.S g k:=hS
 replace hg:s.w.heap[g]? = some (.cells cs 55 (0,0)):=hg
 replace hlc:(En l).length≤cs.size:=hlc
 replace hcd:∀ k,k<(En l).length→∃ u,cs[k]? = some u∧u.oneCell' = true∧(By (En l) k).rel s u:=hcd
 rw [De] at hlc hcd
 have hcell:∀ i j,i<l.length→j<8→cs[i*8+j]? = some (.int .i64 (AC l i j)):=fun i j hi hj=>by
  obtain ⟨u,g1,_,g3⟩:=hcd (i*8+j) (by omega)
  rw [II l hi hj] at g3
  rw [g1]
  exact congrArg some g3
 have hlt:g<s.w.heap.size:=At hg
 obtain ⟨d,hd⟩:∃ d:Array (Nat→Int),d = l.toArray:=⟨_,rfl⟩
 have hds:d.size = l.length:=by rw [hd];simp
 have hdg:∀ i,i<l.length→d[i]! = AC l i:=fun i hi=>by
  rw [getElem!_pos d i (by omega),AC,List.getD_eq_getElem?_getD,List.getElem?_eq_getElem hi]
  simp [hd]
 have hH:HoldsK HC 8 s.w g 0 d:=by
  intro q hq
  rw [size_flatK,hds] at hq
  rw [get_flatK _ _ _ _ (by rw [hds];exact hq),hdg _ (by omega),Oz _ (by omega),Nat.zero_add]
  have:=hcell (q / 8) (q % 8) (by omega) (by omega)
  rw [show q / 8*8+q % 8 = q by omega] at this
  exact ⟨(AO hg).trans this,Blk.frozen hg q⟩
 have hcon:=Tb g c d s.w hH hlt (by omega)
 rw [hds] at hcon
 rw [evs]
 refine hcon.mono ?_
 rintro e w' ⟨rfl,d',m,os,hp,hs,rfl⟩
 have hds':d'.size = l.length:=hp.1.trans hds
 have hnew:=Jh HC 8 s.w g 0 m d' os hg
 have hfar:∀ b,b<s.w.heap.size→b ≠ g→(sortWorldK HC 8 s.w g 0 m d' os).heap[b]? = s.w.heap[b]? := fun b hb hne=>Ji HC 8 s.w g 0 m d' os hb hne
 have hsz:s.w.heap.size≤(sortWorldK HC 8 s.w g 0 m d' os).heap.size:=size_sortWorldK_c HC 8 s.w g 0 m d' os
 let s':GS:=⟨fun b k=>s.S b k∨(s.w.heap.size≤b∧b<(sortWorldK HC 8 s.w g 0 m d' os).heap.size),s.tag,sortWorldK HC 8 s.w g 0 m d' os⟩
 have hc:GS.Chg s s':=⟨hsz,fun _ _ h=>.inl h,fun b cs' T fz hb=>by
  by_cases e:b = g
  ·subst e
   rw [hg] at hb
   cases hb
   exact ⟨_,_,hnew,fun k hk=>absurd hk (hS k)⟩
  ·exact ⟨cs',fz,(hfar b (At hb) e).trans hb,fun _ _=>rfl⟩⟩
 have hok':s'.Ok:=⟨fun b k hb=>hb.elim (fun h=>Nat.lt_of_lt_of_le (hok.lt b k h) hsz) fun h=>h.2,fun b k ⟨c2,fz,hb⟩=>by
  replace hb:(sortWorldK HC 8 s.w g 0 m d' os).heap[b]? = some (.cells c2 136 fz):=hb
  rcases Nat.lt_or_ge b s.w.heap.size with h1 | h1
  ·by_cases e:b = g
   ·rw [e,hnew] at hb
    exact absurd (Obj.cells.inj (Option.some.inj hb)).2.1 (by decide)
   ·exact .inl (hok.safe b k ⟨c2,fz,(hfar b h1 e).symm.trans hb⟩)
  ·exact .inr ⟨h1,At hb⟩⟩
 have e3:(d'.extract 0 l.length).toList = d'.toList:=by
  rw [← hds']
  simp
 have e4:(d.extract 0 l.length).toList = l:=by
  rw [← hds,hd]
  simp
 have hperm:d'.toList.Perm l:=by
  have:=hp.2.2
  rw [e3,e4] at this
  exact this
 refine ⟨_,rfl,s',ρ,.d Ch,[.obj (Bj [⟨g,55,En d'.toList⟩])],⟨d'.toList,hperm,?_,rfl,rfl⟩,rfl,trivial,⟨⟨rfl,rfl,rfl,fun k hk hm=>hfar k hk fun e=>hm ⟨0,_,rfl,⟨_,List.mem_cons_self,e.symm⟩⟩,hc,fun b k hb _ hk=>hk.elim (fun h=>h) fun h=>absurd hb (by omega),fun _ _=>rfl,fun _=>hok'⟩,hok',fun i o hi=>?_,fun i j o o' hij hi hj=>?_,fun i o b hi hb=>?_,fun _ _ _=>rfl,Nat.le_refl _⟩⟩
 ·rw [List.pairwise_iff_getElem]
  intro i j h1 h2 hij
  have:=hs i j (Nat.zero_le _) hij (by rw [Array.length_toList] at h2;omega)
  have this:¬ Eu (d'[j]!) (d'[i]!)<0:=of_decide_eq_false this
  rw [Array.length_toList] at h1 h2
  rw [getElem!_pos d' i h1,getElem!_pos d' j h2] at this
  rw [← Kh,Es] at this
  simp only [Array.getElem_toList]
  omega
 ·match i,hi with
  | 0,hi =>
   cases hi
   refine ⟨fun x hx=>?_,by simp⟩
   rw [List.mem_singleton.1 hx]
   refine ⟨(by decide:(55:TypeId) ≠ 136),fun k hk=>hk.elim (hS k) fun h=>absurd hlt (by show ¬ g<_;have:s.w.heap.size≤g:=h.1;omega),_,hnew,?_,fun k hk=>?_⟩
   ·show (En d'.toList).length≤_
    rw [De,Array.length_toList,hds']
    simpa [putCells] using hlc
   ·have hk:k<(En d'.toList).length:=hk
    rw [De,Array.length_toList,hds'] at hk
    have hkd:k / 8<l.length:=by omega
    have e5:By (En d'.toList) k = ex (.int .i64 (AC d'.toList (k / 8) (k % 8))):=by
     have:=II d'.toList (i:=k / 8) (j:=k % 8) (by rw [Array.length_toList];omega) (by omega)
     rwa [show k / 8*8+k % 8 = k by omega] at this
    refine ⟨.int .i64 (AC d'.toList (k / 8) (k % 8)),?_,rfl,by show (By (En d'.toList) k).rel s' _;rw [e5];rfl⟩
    have h6:k<cs.size:=by omega
    unfold putCells
    rw [Array.getElem?_mapIdx,Array.getElem?_eq_getElem h6]
    simp only [Option.map_some,size_flatK,hds']
    rw [if_pos (by omega),Nat.sub_zero,get_flatK _ _ _ _ (by omega),Oz _ (by omega)]
    congr 2
    rw [getElem!_pos d' (k / 8) (by omega),AC,List.getD_eq_getElem?_getD,List.getElem?_eq_getElem (by rw [Array.length_toList];omega)]
    simp
 ·match i,j,hi,hj with
  | 0,0,_,_=>exact absurd rfl hij
 ·match i,hi with
  | 0,hi =>
   cases hi
   obtain ⟨x,hx,e⟩:=hb
   rw [List.mem_singleton.1 hx] at e
   exact .inl ⟨0,_,rfl,⟨_,List.mem_cons_self,e⟩⟩
def NU (a b:Nat→Int) (k j:Nat):Int:=if j<k then min (a j) (b j) else a j
theorem Sx (a b:Nat→Int) (k:Nat):DD (NU a b k) k (min (a k) (b k)) = NU a b (k+1):=by
 funext j
 simp only [DD,NU]
 rcases Nat.lt_trichotomy j k with h | h | h
 ·rw [if_neg (by omega),if_pos h,if_pos (by omega)]
 ·subst h;simp
 ·rw [if_neg (by omega),if_neg (by omega),if_neg (by omega)]
theorem UA (a b:Nat→Int) (k:Nat):NU a b k k = a k:=if_neg (Nat.lt_irrefl k)
def UC (a b:Nat→Int):Nat→Int:=fun j=>min (a j) (b j)
def Nv (a b:Nat→Int) (k j:Nat):Int:=if j<k then a j - b j else a j
theorem Sj (a b:Nat→Int) (k:Nat):DD (Nv a b k) k (a k - b k) = Nv a b (k+1):=by
 funext j
 simp only [DD,Nv]
 rcases Nat.lt_trichotomy j k with h | h | h
 ·rw [if_neg (by omega),if_pos h,if_pos (by omega)]
 ·subst h;simp
 ·rw [if_neg (by omega),if_neg (by omega),if_neg (by omega)]
theorem TQ (a b:Nat→Int) (k:Nat):Nv a b k k = a k:=if_neg (Nat.lt_irrefl k)
def A0T (a b:Nat→Int):Nat→Int:=fun j=>a j - b j
theorem UG (a b:Nat→Int):Abs Tryz.prog 92 [BK (AE a),BK (AE b)] (BK (AE (UC a b))):=by
 refine Ab Tryz.func92 fun s0=>?_
 rw [Tryz.ntmps92]
 apply Y1;refine Bx ?_;refine Bx ?_;refine Al ?_;refine Y0<|Aa<|Y1<|Wm<|Y0<|AWp.block ?_
 refine AK (fun mz σ=>∃ k,k≤8∧mz = 8 - k∧σ = ⟨[(2,.ptr 0 0),(3,.ptr 1 0),(4,.ptr 2 0),(6,.d (ex (.int .i64 (k:Nat))))],[.var 55 ((AE (NU a b k)).map .d),.var 55 ((AE b).map .d),.var 55 ((AE fun _=>0).map .d)]⟩) ?le ⟨0,by omega,rfl,rfl⟩ ?round
 case le=>exact Ag (by exact Yp<|Yp<|Yp<|Yd<|FrLe.nil) (by exact Yv<|Yv<|Yv<|HpLe.nil)
 case round =>
  rintro mz _ ⟨k,hk,rfl,rfl⟩
  by_cases hlt:k<8
  ·have h1:=UA a b k
   apply Y1;refine Wq Ar ?_;refine Y0<|Aa ?_;refine Ct ?_;refine Ys<|Aa<|AWp.block<|Y1<|Wm<|Wa<|Y0 ?_
   refine Dr [[],[],[(10,1)],[(11,2)],[],[(13,4)],[(14,5)],[(12,3),(15,6)],[(9,0)]] [[],[],[1],[1,2],[],[4],[4,5],[1,2,3,4,5,6],[0,1,2,3,4,5,6,7]] ?_
   refine Xq Ae ?_;refine Xq Ae ?_;refine Xq AQ ?_;refine Xq Bg ?_;refine Xq Ae ?_;refine Xq AQ ?_;refine Xq Bg ?_;refine Xq Ze ?_;refine Xq AQ ?_;refine ⟨_,rfl,?_⟩
   (refine BL (ao rfl) (ao rfl) rfl (Ac rfl) (by first | exact Bw rfl | exact One.sl | exact Cv) (SetAt.mon (by first | omega | (simp;omega))) rfl ?_);apply AWl.nil;apply Ah;refine Yn<|AWp.region ?_;refine Wq AG ?_;refine Wm ?_;apply AWl.nil
   refine ALoop.next (8 - (k+1)) (by omega) ⟨k+1,by omega,rfl,rfl⟩ ?_
   exact Ag (by exact Yp<|Yp<|Yp<|Yd<|FrLe.nil) (by exact HpLe.cons (Dz (by rw [h1,Sx]))<|Yv<|Yv<|HpLe.nil)
  ·obtain rfl : k = 8 := by omega
   apply Y1;refine Wq Aq ?_;refine Y0<|Aa ?_;refine Cf ?_;apply AF;apply Az;apply AA;apply AB;refine Yn<|Y1 ?_;refine Wq AL ?_;refine Sf ?_;apply Y0;apply Aw
   exact Cq (Rets.of1 (ResV.cell rfl rfl (Ac rfl) rfl rfl rfl) (D.le.refl _))
theorem UF (a b:Nat→Int) (h:Dv b a) (hb:In8 b 0 100000) (ha:In8 a 0 100000):Abs Tryz.prog 91 [BK (AE a),BK (AE b)] (DP [BK (AE (A0T a b)),ex (.bool true)]):=by
 refine Ab Tryz.func91 fun s0=>?_
 rw [Tryz.ntmps91]
 apply Y1;refine Bx ?_;refine Bx ?_;refine Al ?_;refine Wa<|Y0<|Aa<|Y1 ?_;refine Wq AL ?_;refine Wq AL ?_;refine Wq (Am (Oa b a h)) ?_;refine Wq Ci ?_;apply Y0;refine Cf ?_;refine Ys<|Aa<|Y1<|Wm<|Y0<|AWp.block ?_
 refine AK (fun mz σ=>∃ k,k≤8∧mz = 8 - k∧σ = ⟨[(2,.ptr 0 0),(3,.ptr 1 0),(4,.ptr 2 0),(12,.d (ex (.int .i64 (k:Nat))))],[.var 55 ((AE (Nv a b k)).map .d),.var 55 ((AE b).map .d),.var 55 ((AE fun _=>0).map .d)]⟩) ?le ⟨0,by omega,rfl,rfl⟩ ?round
 case le=>exact Ag (by exact Yp<|Yp<|Yp<|Yd<|FrLe.nil) (by exact Yv<|Yv<|Yv<|HpLe.nil)
 case round =>
  rintro mz _ ⟨k,hk,rfl,rfl⟩
  by_cases hlt:k<8
  ·have h1:=TQ a b k
   have g1:=ha k hlt
   have g2:=hb k hlt
   apply Y1;refine Wq Ar ?_;refine Y0<|Aa ?_;refine Ct ?_;refine Ys<|Aa<|AWp.block<|Y1<|Wm<|Wa<|Y0 ?_
   refine Dr [[],[(15,0)],[(16,1)],[],[(18,3)],[(19,4)],[(17,2),(20,5)],[(15,0)]] [[],[0],[0,1],[],[3],[3,4],[0,1,2,3,4,5],[0,1,2,3,4,5,6]] ?_
   refine Xq Ae ?_;refine Xq AQ ?_;refine Xq Bg ?_;refine Xq Ae ?_;refine Xq AQ ?_;refine Xq Bg ?_;refine Xq DS ?_;refine Xq AQ ?_;refine ⟨_,rfl,?_⟩
   (refine BL (ao rfl) (ao rfl) rfl (Ac rfl) (by first | exact Bw rfl | exact One.sl | exact Cv) (SetAt.mon (by first | omega | (simp;omega))) rfl ?_);apply AWl.nil;apply Ah;refine Yn<|AWp.region ?_;refine Wq AG ?_;refine Wm ?_;apply AWl.nil
   refine ALoop.next (8 - (k+1)) (by omega) ⟨k+1,by omega,rfl,rfl⟩ ?_
   exact Ag (by exact Yp<|Yp<|Yp<|Yd<|FrLe.nil) (by exact HpLe.cons (Dz (by rw [h1,Sj]))<|Yv<|Yv<|HpLe.nil)
  ·obtain rfl : k = 8 := by omega
   apply Y1;refine Wq Aq ?_;refine Y0<|Aa ?_;refine Cf ?_;apply AF;apply Az;apply AA;apply AB;refine Yn<|Y1 ?_;refine Wq AL ?_;refine Sf ?_;refine Wa<|Y0 ?_;apply Aw
   exact Cq (CV (ResV.cell rfl rfl (Ac rfl) rfl rfl rfl) (ResV.tmp rfl rfl) (CC (D.le.refl _) (D.le.refl _)))
theorem WK (a b:Nat→Int):Dv (UC a b) a:=fun j _=>Int.min_le_left _ _
structure PureQ (P : Program) (hp:List Ow) (o:Oper) (arg:Operand→AV) (r:AV):Prop where
 run:∀ (base:Nat) (s:GS) (ρ:Nat→Value) (ev:Operand→Value),s.Ok→base≤s.w.heap.size→HpOk base ρ s hp→(∀ x,x∈o.op.operands→AVr hp.length ρ s (arg x) (ev x))→∃ v,(∀ w,(execOp ev o).run P w = .ok (.value v) w)∧AVr hp.length ρ s r v
section
variable {P : Program} {hp:List Ow} {o:Oper} {arg:Operand→AV}
theorem PureQ.move {x : Operand} {r:AV} (hop:o.op = .move x) (hx:arg x = r):PureQ P hp o arg r:=by
 subst hx
 exact ⟨fun base s ρ ev hok hbs hhp h=>⟨ev x,fun w=>by simp [execOp,hop],h x (by rw [hop];simp [Op.operands])⟩⟩
theorem PureQ.slice {x : Operand} {t:TypeId} {e n b n' b' T sz:Nat} {d:TypeDesc} {z z':Value} {lo hi:Option Operand} {rows:List (List D)} {i j:Int} (hop:o.op = .slice t x lo hi none) (hx:Eb hp (arg x) = some (slD T sz rows)) (ht:Tab P t (.slice e) n b z) (he:Tab P e d n' b' z') (hsz:n' = sz) (hlo:(∃ y,lo = some y∧arg y = .d (ex (.int .i64 i)))∨(lo = none∧i = 0)) (hhi:(∃ y,hi = some y∧arg y = .d (ex (.int .i64 j)))∨(hi = none∧j = rows.length)) (h0:0≤i) (hij:i≤j) (hj:j≤rows.length):PureQ P hp o arg (.d (slD T sz ((rows.take j.toNat).drop i.toNat))):=by
 refine ⟨fun base s ρ ev hok hbs hhp h=>?_⟩
 obtain ⟨A,c,e1,h1,h2,h3⟩:=BM hhp (h x (by rw [hop];simp [Op.operands])) hx
 subst hsz
 obtain ⟨i,rfl⟩:=Int.eq_ofNat_of_zero_le h0
 obtain ⟨j,rfl⟩:=Int.eq_ofNat_of_zero_le (Int.le_trans h0 hij)
 have hij':i≤j:=by omega
 have hj':j≤rows.length:=by omega
 have elo:∃ lo',lo.map ev = lo'∧((lo' = some (.int .i64 i))∨(lo' = none∧i = 0)):=by
  rcases hlo with ⟨y,rfl,hy⟩ | ⟨rfl,hi0⟩
  ·have h5 := h y (by rw [hop]; simp [Op.operands])
   rw [hy] at h5
   exact ⟨_,rfl,.inl (by show some (ev y) = _;rw [show ev y = _ from h5])⟩
  ·exact ⟨_,rfl,.inr ⟨rfl,by omega⟩⟩
 have ehi:∃ hi',hi.map ev = hi'∧((hi' = some (.int .i64 j))∨(hi' = none∧j = rows.length)):=by
  rcases hhi with ⟨y,rfl,hy⟩ | ⟨rfl,hi0⟩
  ·have h5 := h y (by rw [hop]; simp [Op.operands])
   rw [hy] at h5
   exact ⟨_,rfl,.inl (by show some (ev y) = _;rw [show ev y = _ from h5])⟩
  ·exact ⟨_,rfl,.inr ⟨rfl,by omega⟩⟩
 obtain ⟨lo',l1,l2⟩:=elo
 obtain ⟨hi',r1,r2⟩:=ehi
 have hjc:(j:Int)≤c:=by omega
 have hic:(i:Int)≤j:=by omega
 have hb:∀ w,(Instr.sliceBounds true rows.length c lo' hi' none).run P w = .ok (i,j,c) w:=fun w=>by
  rcases l2 with rfl | ⟨rfl,rfl⟩ <;> rcases r2 with rfl | ⟨rfl,rfl⟩ <;> simp [Instr.sliceBounds,Instr.sliceBound,asIntOf,hjc,hic,hij',hj',h1]
  all_goals first | omega | simp [hij',hj',h1] | skip
 have hrun:∀ w,(execOp ev o).run P w = .ok (.value (.slice (if c = i then A else A.map (·.add (i*n'))) (j - i) (c - i))) w:=fun w=>by
  simp only [execOp,hop,l1,r1,e1,Option.map_none,Instr.sliceAt,Sem.run_bind,run_underlying ht.und,Result.andThen_ok,Instr.slice,hb,he.run_size,Sem.run_pure]
 have hlen:((rows.take (j:Int).toNat).drop (i:Int).toNat).length = j - i:=by simp;omega
 refine ⟨_,hrun,(if c = i then A else A.map (·.add (i*n'))),c - i,by rw [hlen],by rw [hlen];omega,by omega,fun hp=>?_⟩
 rw [hlen] at hp
 obtain ⟨g,p,rfl,h5⟩:=h3 (by omega)
 refine ⟨g,p+i*n',?_,fun k hk=>?_⟩
 ·rw [if_neg (by omega)]
  simp [Addr.add_lit]
 ·rw [hlen] at hk
  rw [show (j:Int).toNat = j from rfl,show (i:Int).toNat = i from rfl]
  rw [LE,LD (by omega)]
  have:=h5 (i+k) (by omega)
  rw [Nat.add_mul,← Nat.add_assoc] at this
  exact this
theorem Pd {α : Type} {x y:Operand} {t:TypeId} {e n b n' b' T sz i:Nat} {d:TypeDesc} {z z':Value} {f:α→List D} {l:List α} (hop:o.op = .slice t x (some y) none none) (hx:Eb hp (arg x) = some (slD T sz (l.map f))) (hy:arg y = .d (ex (.int .i64 (i:Nat)))) (ht:Tab P t (.slice e) n b z) (he:Tab P e d n' b' z') (hsz:n' = sz) (hi:i≤l.length):PureQ P hp o arg (.d (slD T sz ((l.drop i).map f))):=by
 have h:=PureQ.slice (P:=P) (hp:=hp) (i:=(i:Nat)) (j:=((l.map f).length:Nat)) hop hx ht he hsz (.inl ⟨y,rfl,hy⟩) (.inr ⟨rfl,rfl⟩) (by omega) (by simp;omega) (by omega)
 have e1:((l.map f).take (((l.map f).length:Nat):Int).toNat).drop ((i:Nat):Int).toNat = (l.drop i).map f:=by
  rw [show (((l.map f).length:Nat):Int).toNat = (l.map f).length from rfl,List.take_length,List.map_drop]
  rfl
 rwa [e1] at h
end
structure AWy (P : Program) (s0:An) (n:Nat) (ops:Array Oper) (Q:Exit→AS→Prop) (fuel:Nat) (listed:Array Bool) (σ:AS):Prop where
 run:∀ a w,St s0 n σ a w→wpAny P .any ops (EY s0 n (OnlyN Q)) fuel listed a w
def NE (ops : Array Oper):Array Bool→List Nat→Bool
 | listed,[]=>Region.ready .any ops listed == []
 | listed,j :: js=>Region.ready .any ops listed == [j] && NE ops (listed.setIfInBounds j true) js
def MV (ops : Array Oper) (js:List Nat):Bool:=js.all fun j=>(ops[j]?).isSome
def Ld (ops : Array Oper):List Nat→List Oper
 | []=>[]
 | j :: js=>match ops[j]? with
  | some o=>o :: Ld ops js
  | none=>[]
theorem HT {ops : Array Oper}:∀ {js:List Nat},MV ops js = true→js.map (fun j=>ops[j]?) = (Ld ops js).map some
 | [],_=>rfl
 | j :: js,h=>by
  simp only [MV,List.all_cons,Bool.and_eq_true] at h
  obtain ⟨o,ho⟩:=Option.isSome_iff_exists.1 h.1
  have ih:=HT (js:=js) h.2
  simp only [Ld,ho,List.map_cons,ih]
section
variable {P : Program} {s0:An} {n:Nat} {ops:Array Oper} {Q:Exit→AS→Prop} {fr:List (Nat × AV)} {hp:List Ow}
theorem AWp.any {id : Nat} {l:List Oper} {σ:AS} (hm:P.follows .mixedOrders = true) (h:AWy P s0 n l.toArray Q l.toArray.size (Array.replicate l.toArray.size false) σ):AWp P s0 n (.region id l.toArray true) Q σ:=by
 refine ⟨fun a w ⟨s,ρ,hw,hst⟩=>?_⟩
 subst hw
 have hst':=hst.put (GK s) (dst:=none) (fun d hd=>by cases hd) (v:=undef) (r:=.d Ch) trivial
 have h1:=h.run a s.w.drew ⟨s.dr,ρ,rfl,hst'⟩
 exact wp_mono (wp_region_any hm h1) fun ex a' w' ⟨σ',hq,hs⟩=>by
  obtain ⟨rfl,hq⟩:=hq
  exact ⟨σ',hq,hs⟩
theorem EJ {fuel : Nat} {listed:Array Bool} (i:Nat) {o:Oper} {d:Nat} {r:AV} (hi:ops[i]? = some o) (hg:o.guard = none) (hdst:o.dst = some d) (hs:Region.noSelect ops = true) (hf:Region.free .any ops listed i = true) (hr:(Region.ready .any ops listed).contains i = true) (hd:Nat.blt d n = true) (hq:PureQ P hp o (AS.arg ⟨fr,hp⟩) r) (h:AWy P s0 n ops Q fuel (listed.setIfInBounds i true) ⟨(d,r) :: fr,hp⟩):AWy P s0 n ops Q (fuel+1) listed ⟨fr,hp⟩:=by
 refine ⟨fun a w ⟨s,ρ,hw,hst⟩=>?_⟩
 subst hw
 obtain ⟨v,h1,h2⟩:=hq.run 0 s ρ a.eval hst.ok (Nat.zero_le _) hst.hp fun x _=>hst.arg x
 have hst':=hst.put (GS.Le.refl s) (dst:=some d) (fun d' hd'=>by cases hd';simpa [Nat.blt_eq] using hd) h2
 refine wpAny_take hi hs hf hr (fun c a w h=>?_) (.inl ⟨by simp [Region.wanted,hg],h1⟩) ?_
 ·obtain ⟨_,h,_⟩:=h
  have:=h.how
  cases this
 ·rw [hdst]
  exact h.run _ _ ⟨s,ρ,rfl,hst'⟩
theorem HQ {ops : Array Oper} {Q:Exit→Act→World→Prop}:∀ (js:List Nat) (L:List Oper) (listed:Array Bool) (a:Act) (w:World),NE ops listed js = true→js.map (fun j=>ops[j]?) = L.map some→wpList P ops Q L a w→wpAny P .any ops Q js.length listed a w
 | [],[],listed,a,w,hs,_,h=>⟨by simpa [NE] using hs,h⟩
 | [],_ :: _,_,_,_,_,hl,_=>by simp at hl
 | _ :: _,[],_,_,_,_,hl,_=>by simp at hl
 | j :: js,o :: L,listed,a,w,hs,hl,h=>by
  simp only [NE,Bool.and_eq_true,beq_iff_eq] at hs
  simp only [List.map_cons,List.cons.injEq] at hl
  refine wpAny_all hs.1 (by simp) fun i hi=>?_
  obtain rfl:i = j:=by simpa using hi
  unfold wpList at h
  unfold wpOp
  rw [hl.1]
  simp only
  split
  ·rename_i hw
   rw [if_pos hw] at h
   exact h.imp (Oper.wp_mono fun a w h=>HQ js L _ a w hs.2 hl.2 h) fun h=>h
  ·rename_i hw
   rw [if_neg hw] at h
   exact HQ js L _ _ w hs.2 hl.2 h
theorem AWy.seq {fuel : Nat} {listed:Array Bool} {σ:AS} (js:List Nat) (hs:NE ops listed js = true) (hl:MV ops js = true) (hf:fuel = js.length) (h:AWl P s0 n ops (OnlyN Q) (Ld ops js) σ):AWy P s0 n ops Q fuel listed σ:=by
 subst hf
 exact ⟨fun a w hst=>HQ js _ listed a w hs (HT hl) (h.run a w hst)⟩
end
theorem Sd {P : Program} {Q:Exit→Act→World→Prop} {L:Array Oper} (I:Array Bool→Act→World→Prop)
  (hstep:∀ listed a w i,listed.size = L.size→I listed a w→i∈Region.ready .any L listed→wpOp P L Q i (fun a' w'=>I (listed.setIfInBounds i true) a' w') a w)
  (hend:∀ listed a w,listed.size = L.size→I listed a w→Region.ready .any L listed = []→Q .normal a w) :
  ∀ (f:Nat) (listed:Array Bool) a w,listed.size = L.size→listed.count false≤f→I listed a w→wpAny P .any L Q f listed a w:=by
 have hfalse:∀ (listed:Array Bool) i,i∈Region.ready .any L listed→∃ h:i<listed.size,listed[i] = false:=fun listed i hi=>by
  have h1:=(mem_ready.1 hi).1
  have hlt:i<listed.size:=by
   rcases Nat.lt_or_ge i listed.size with h | h
   ·exact h
   ·rw [Array.getD_eq_getD_getElem?,Array.getElem?_eq_none h] at h1
    simp at h1
  refine ⟨hlt,?_⟩
  rw [Array.getD_eq_getD_getElem?,Array.getElem?_eq_getElem hlt] at h1
  simpa using h1
 have hmore:∀ (listed:Array Bool),Region.ready .any L listed ≠ []→listed.count false ≠ 0:=fun listed h=>by
  obtain ⟨i,hi⟩:=List.exists_mem_of_ne_nil _ h
  obtain ⟨hlt,hv⟩:=hfalse listed i hi
  rw [← Array.count_toList]
  have h2:listed.toList[i]'(by simpa using hlt) = false:=by simpa using hv
  have h3:0<listed.toList.count false:=List.count_pos_iff.2 (h2 ▸ List.getElem_mem _)
  omega
 intro f
 induction f with
 | zero =>
  intro listed a w hsz hf hI
  have h0:Region.ready .any L listed = []:=Classical.byContradiction fun h=>hmore listed h (by omega)
  exact ⟨h0,hend listed a w hsz hI h0⟩
 | succ f ih =>
  intro listed a w hsz hf hI
  refine ⟨fun h0=>hend listed a w hsz hI h0,fun i hi=>?_⟩
  refine wpOp_mono (fun a' w' hI'=>ih _ a' w' (by simpa using hsz) ?_ hI') (hstep listed a w i hsz hI hi)
  obtain ⟨hlt,hv⟩:=hfalse listed i hi
  have hc:(listed.setIfInBounds i true).count false+1 = listed.count false:=by
   rw [← Array.count_toList,← Array.count_toList,Array.toList_setIfInBounds,List.count_set (by simpa using hlt)]
   have h2:listed.toList[i]'(by simpa using hlt) = false:=by simpa using hv
   have h3:0<listed.toList.count false:=List.count_pos_iff.2 (h2 ▸ List.getElem_mem _)
   rw [h2]
   have e1:(if ((false:Bool) == false) = true then 1 else 0) = 1:=rfl
   have e2:(if ((true:Bool) == false) = true then 1 else 0) = 0:=rfl
   rw [e1,e2]
   omega
  omega
inductive HY
 | av (r:AV)
 | new (T:TypeId) (cs:List Value)
 | newS (T:TypeId) (k:Nat) (ds:List D)
 | st (j:Nat)
def Ml : HY→HR
 | .av r=>.av r
 | _=>.av (.d Ch)
def HYStep (P : Program) (σ:AS) (rs:List HY) (es:List (Nat × Nat)) (i:Nat) (o:Oper):HY→Prop
 | .av r=>o.guard = none∧Quiet P σ.hp o (Hh σ (rs.map Ml) es) r
 | .new T cs=>HStep P σ [] es o (.new T cs)
 | .newS T k ds=>(∃ cs,HStep P σ [] es o (.new T cs)∧cs.length = ds.length)∧rs[k]? = some (.st i)
 | .st j=>o.guard = none∧o.dst = none∧∃ T x y T0 ds d b z,o.op = .store T (.tmp x) y∧(x,j)∈es∧rs[j]? = some (.newS T0 i ds)∧Hh σ (rs.map Ml) es y = .d (BK ds)∧Tab P T d ds.length b z
def HYSteps (P : Program) (σ:AS) (rs:List HY):Nat→List Oper→List (List (Nat × Nat))→List HY→Prop
 | i,o :: L,x :: S,r :: T=>HYStep P σ rs x i o r∧HYSteps P σ rs (i+1) L S T
 | _,[],[],[]=>True
 | _,_,_,_=>False
theorem HYSteps.at {P : Program} {σ:AS} {rs:List HY}:∀ {L:List Oper} {S:List (List (Nat × Nat))} {T:List HY} {i:Nat},HYSteps P σ rs i L S T→L.length = S.length∧L.length = T.length∧∀ (k:Nat) o x r,L[k]? = some o→S[k]? = some x→T[k]? = some r→HYStep P σ rs x (i+k) o r
 | [],[],[],i,_=>⟨rfl,rfl,fun k o x r h=>by simp at h⟩
 | [],[],_ :: _,i,h=>h.elim
 | [],_ :: _,T,i,h=>by cases T <;> exact h.elim
 | _ :: _,[],T,i,h=>by cases T <;> exact h.elim
 | _ :: _,_ :: _,[],i,h=>h.elim
 | o :: L,x :: S,r :: T,i,⟨h1,h2⟩=>by
  obtain ⟨e1,e2,e3⟩:=HYSteps.at h2
  refine ⟨by simp [e1],by simp [e2],fun k o' x' r' ho hx hr=>?_⟩
  cases k with
  | zero =>
   simp at ho hx hr
   subst ho;subst hx;subst hr
   exact h1
  | succ k =>
   simp at ho hx hr
   have:=e3 k o' x' r' ho hx hr
   rw [show i+(k+1) = i+1+k by omega]
   exact this
def AS.aftS (σ : AS):List Oper→List HY→AS
 | o :: L,.av r :: rs=>AS.aftS (σ.put o.dst r) L rs
 | o :: L,.new T cs :: rs=>AS.aftS (σ.new o.dst (.ptr σ.hp.length 0) (.var T (Pp cs))) L rs
 | o :: L,.newS T _ ds :: rs=>AS.aftS (σ.new o.dst (.ptr σ.hp.length 0) (.var T (ds.map .d))) L rs
 | _ :: L,.st _ :: rs=>AS.aftS σ L rs
 | _,_=>σ
def SFact (m : Nat) (ρ:Nat→Value) (W:Nat) (done:Nat→Bool) (i:Nat):HY→Value→GS→Prop
 | .av r=>fun v s=>AVr m ρ s r v
 | .new T cs=>HFact m ρ W i (.new T cs)
 | .newS T k ds=>fun v s=>∃ b cs,v = .pointer (some ⟨b,0,none⟩)∧W≤b∧s.w.heap[b]? = some (.cells cs T (0,0))∧(∀ k,¬ s.S b k)∧s.tag b = i+1∧T ≠ 136∧cs.size = ds.length∧(done k = true→∀ j,j<ds.length→∃ u,cs[j]? = some u∧u.oneCell' = true∧(By ds j).rel s u)
 | .st _=>fun _ _=>True
theorem SFact.st {m : Nat} {ρ:Nat→Value} {W i:Nat} {done done':Nat→Bool} {r:HY} {v:Value} {s s':GS} (hl:GS.Le s s') (hk:∀ T k ds,r = .newS T k ds→done' k = done k) (h:SFact m ρ W done i r v s):SFact m ρ W done' i r v s':=by
 cases r with
 | av r=>exact AVr.chg h hl.chg
 | new T cs=>exact HFact.st (m:=m) (ρ:=ρ) (W:=W) (i:=i) (r:=.new T cs) v s s' hl h
 | newS T k ds =>
  obtain ⟨b,cs,h1,h2,h3,h4,h5,h6,h7,h8⟩:=h
  refine ⟨b,cs,h1,h2,(hl.ext.block (At h3)).trans h3,fun k hk=>h4 k (hl.old b k (At h3) hk),(hl.tag b (At h3)).trans h5,h6,h7,fun hd j hj=>?_⟩
  rw [hk T k ds rfl] at hd
  obtain ⟨u,e1,e2,e3⟩:=h8 hd j hj
  exact ⟨u,e1,e2,(By ds j).st e3 hl.chg⟩
 | st j=>trivial
theorem SFact.turn {m : Nat} {ρ:Nat→Value} {W i g tg:Nat} {done done':Nat→Bool} {r:HY} {v:Value} {s s':GS} (hc:GS.Chg s s') (hfar:∀ b,b ≠ g→s'.w.heap[b]? = s.w.heap[b]?) (hS:∀ b k,s'.S b k→s.S b k) (ht:∀ b,s'.tag b = s.tag b) (hg:s.tag g = tg+1) (hne:i ≠ tg) (hk:∀ T k ds,r = .newS T k ds→done' k = done k) (h:SFact m ρ W done i r v s):SFact m ρ W done' i r v s':=by
 cases r with
 | av r=>exact AVr.chg h hc
 | new T cs =>
  obtain ⟨b,h1,h2,h3,h4,h5,h6,h7⟩:=h
  have hb:b ≠ g:=fun e=>by rw [e,hg] at h5;omega
  exact ⟨b,h1,h2,(hfar b hb).trans h3,fun k hk=>h4 k (hS b k hk),(ht b).trans h5,h6,h7⟩
 | newS T k ds =>
  obtain ⟨b,cs,h1,h2,h3,h4,h5,h6,h7,h8⟩:=h
  have hb:b ≠ g:=fun e=>by rw [e,hg] at h5;omega
  refine ⟨b,cs,h1,h2,(hfar b hb).trans h3,fun k hk=>h4 k (hS b k hk),(ht b).trans h5,h6,h7,fun hd j hj=>?_⟩
  rw [hk T k ds rfl] at hd
  obtain ⟨u,e1,e2,e3⟩:=h8 hd j hj
  exact ⟨u,e1,e2,(By ds j).st e3 hc⟩
 | st j=>trivial
theorem In {s0 : An} {n:Nat} {s':GS} {m W:Nat} {ρ0:Nat→Value} {g:Nat→Value}:∀ {L:List Oper} {rs:List HY} {i:Nat} {σ:AS} {a:Act} {ρ:Nat→Value},L.length = rs.length→StI s0 n σ a s' ρ→m≤σ.hp.length→(∀ j,j<m→ρ j = ρ0 j)→s0.g.w.heap.size≤W →
  (∀ k o b,σ.hp[k]? = some o→OwB s' (ρ k) o b→b<W∨∃ j,j<i∧s'.tag b = j+1)→(∀ (j:Nat) r,rs[j]? = some r→SFact m ρ0 W (fun _=>true) (i+j) r (g (i+j)) s')→(∀ (j:Nat) o k,L[j]? = some o→rs[j]? = some (.st k)→o.dst = none)→(∀ o∈L,∀ d,o.dst = some d→d<n)→∃ ρ',StI s0 n (σ.aftS L rs) (CU g L i a) s' ρ'
 | [],[],i,σ,a,ρ,_,h,_,_,_,_,_,_,_=>⟨ρ,h⟩
 | [],_ :: _,_,_,_,_,hl,_,_,_,_,_,_,_,_=>by simp at hl
 | _ :: _,[],_,_,_,_,hl,_,_,_,_,_,_,_,_=>by simp at hl
 | o :: L,r :: rs,i,σ,a,ρ,hl,h,hm,hρ,hW,hb,hf,hst,hd=>by
  have hd1:∀ d,o.dst = some d→d<n:=hd o (by simp)
  have hd2:∀ o∈L,∀ d,o.dst = some d→d<n:=fun o ho=>hd o (by simp [ho])
  have hst2:∀ (j:Nat) o k,L[j]? = some o→rs[j]? = some (.st k)→o.dst = none:=fun j o k h1 h2=>hst (j+1) o k (by simpa using h1) (by simpa using h2)
  have hf0:=hf 0 r rfl
  rw [Nat.add_zero] at hf0
  have hf':∀ (j:Nat) r',rs[j]? = some r'→SFact m ρ0 W (fun _=>true) (i+1+j) r' (g (i+1+j)) s':=fun j r' hj=>by
   have:=hf (j+1) r' (by simpa using hj)
   rw [show i+(j+1) = i+1+j by omega] at this
   exact this
  have hbn:∀ (b:Nat) (T:TypeId) (c:List AV),s'.tag b = i+1→∀ (k:Nat) o' b',(σ.hp ++ [Ow.var T c])[k]? = some o'→OwB s' (if k = σ.hp.length then .pointer (some ⟨b,0,none⟩) else ρ k) o' b'→b'<W∨∃ j,j<i+1∧s'.tag b' = j+1:=by
   intro b T c e5 k o' b' hk hv
   rw [List.getElem?_append] at hk
   split at hk
   ·rename_i hlt
    rw [if_neg (by omega)] at hv
    rcases hb k o' b' hk hv with h2 | ⟨j,h2,h3⟩
    ·exact .inl h2
    ·exact .inr ⟨j,by omega,h3⟩
   ·rename_i hge
    have:k = σ.hp.length:=by
     have:=Cz hk
     simp at this
     omega
    subst this
    rw [if_pos rfl] at hv
    have ho:o' = .var T c:=by simp at hk;exact hk.symm
    subst ho
    cases hv
    exact .inr ⟨i,by omega,e5⟩
  have hsep:∀ (b:Nat) (T:TypeId) (c:List AV),W≤b→s'.tag b = i+1→∀ b',OwB s' (.pointer (some ⟨b,0,none⟩)) (.var T c) b'→∀ k o',σ.hp[k]? = some o'→¬ OwB s' (ρ k) o' b':=by
   intro b T c e2 e5 b' hb' k o' hk hv
   cases hb'
   rcases hb k o' b hk hv with h2 | ⟨j,h2,h3⟩
   ·omega
   ·omega
  cases r with
  | av r =>
   have h1:=h.put (GS.Le.refl s') hd1 (v:=g i) (r:=r) (AVr.mono hf0 hm hρ)
   refine In (L:=L) (rs:=rs) (i:=i+1) (by simpa using hl) h1 ?_ hρ hW ?_ hf' hst2 hd2
   ·cases hdo:o.dst <;> exact hm
   ·intro k o' b hk hv
    have hk':σ.hp[k]? = some o':=by cases hdo:o.dst <;> (rw [hdo] at hk;exact hk)
    rcases hb k o' b hk' hv with h2 | ⟨j,h2,h3⟩
    ·exact .inl h2
    ·exact .inr ⟨j,by omega,h3⟩
  | st j =>
   have hdn:o.dst = none:=hst 0 o j rfl rfl
   have ha:CU g (o :: L) i a = CU g L (i+1) a:=by show CU g L (i+1) (a.put o.dst (g i)) = _;rw [hdn];rfl
   rw [ha]
   refine In (L:=L) (rs:=rs) (i:=i+1) (by simpa using hl) h hm hρ hW ?_ hf' hst2 hd2
   intro k o' b hk hv
   rcases hb k o' b hk hv with h2 | ⟨j,h2,h3⟩
   ·exact .inl h2
   ·exact .inr ⟨j,by omega,h3⟩
  | new T cs =>
   obtain ⟨b,e1,e2,e3,e4,e5,e6,e7⟩:=hf0
   have h1:=h.newG (GS.Le.refl s') hd1 (v:=g i) (u:=.pointer (some ⟨b,0,none⟩)) (r:=.ptr σ.hp.length 0) (ow:=.var T (Pp cs)) ⟨by omega,b,by simp,e1⟩ ?_ (hsep b T _ e2 e5) (fun b' hb'=>by cases hb';exact .inr (Nat.le_trans hW e2))
   ·exact In (L:=L) (rs:=rs) (i:=i+1) (by simpa using hl) h1 (by show m≤(σ.hp ++ [_]).length;simp;omega) (fun j hj=>by rw [if_neg (by omega)];exact hρ j hj) hW (hbn b T _ e5) hf' hst2 hd2
   ·refine ⟨b, cs.toArray, by simp, Nat.zero_le _, e3, by simp [Pp], e6, e4, fun k av hk => ?_⟩
    unfold Pp at hk
    rw [List.getElem?_map] at hk
    cases hz:cs[k]? with
    | none=>rw [hz] at hk;cases hk
    | some u =>
     rw [hz] at hk
     cases hk
     exact ⟨u,by simpa using hz,List.all_eq_true.1 e7 u (List.mem_of_getElem? hz),rfl⟩
  | newS T k0 ds =>
   obtain ⟨b,cs,e1,e2,e3,e4,e5,e6,e7,e8⟩:=hf0
   have h1:=h.newG (GS.Le.refl s') hd1 (v:=g i) (u:=.pointer (some ⟨b,0,none⟩)) (r:=.ptr σ.hp.length 0) (ow:=.var T (ds.map .d)) ⟨by omega,b,by simp,e1⟩ ?_ (hsep b T _ e2 e5) (fun b' hb'=>by cases hb';exact .inr (Nat.le_trans hW e2))
   ·exact In (L:=L) (rs:=rs) (i:=i+1) (by simpa using hl) h1 (by show m≤(σ.hp ++ [_]).length;simp;omega) (fun j hj=>by rw [if_neg (by omega)];exact hρ j hj) hW (hbn b T _ e5) hf' hst2 hd2
   ·refine ⟨b, cs, by simp, Nat.zero_le _, e3, by simp [e7], e6, e4, fun k av hk => ?_⟩
    rw [List.getElem?_map] at hk
    cases hz:ds[k]? with
    | none=>rw [hz] at hk;cases hk
    | some u =>
     rw [hz] at hk
     cases hk
     obtain ⟨x,q1,q2,q3⟩:=e8 rfl k (List.getElem?_eq_some_iff.1 hz).1
     refine ⟨x,q1,q2,?_⟩
     have:By ds k = u:=by simp [By,hz]
     rw [this] at q3
     exact q3
def YZ (L : List Oper) (es:List (List (Nat × Nat))) (n:Nat):Bool :=
 (List.range L.length).all fun i=>match L[i]?,es[i]? with
  | some o,some e=>BJ o.op && ((BD o).all fun k=>decide (k<i)) && (e.all fun p=>(BD o).contains p.2 && (match L[p.2]? with | some o'=>o'.dst == some p.1 | none=>false)) &&
   (o.op.operands.all fun y=>match y with | .tmp t=>(e.any fun p=>p.1 == t) || (L.all fun o'=>o'.dst != some t) | _=>true) &&
   (match o.dst with | none=>true | some d=>decide (d<n) && ((List.range L.length).all fun j=>j == i || (match L[j]? with | some o'=>o'.dst != some d | none=>true)))
  | _,_=>false
structure ChkS (L : List Oper) (n i:Nat) (o:Oper) (e:List (Nat × Nat)):Prop where
 ns:BJ o.op = true
 lt:∀ k∈BD o,k<i
 env:∀ p∈e,p.2∈BD o∧∃ o',L[p.2]? = some o'∧o'.dst = some p.1
 out:∀ t,Operand.tmp t∈o.op.operands→(∃ p∈e,p.1 = t)∨∀ o'∈L,o'.dst ≠ some t
 dst:∀ d,o.dst = some d→d<n∧∀ (j:Nat) o',L[j]? = some o'→o'.dst = some d→j = i
theorem Fr {L : List Oper} {es:List (List (Nat × Nat))} {n:Nat} (h:YZ L es n = true) {i:Nat} {o:Oper} (ho:L[i]? = some o):∃ e,es[i]? = some e∧ChkS L n i o e:=by
 have h1:=List.all_eq_true.1 h i (List.mem_range.2 (List.getElem?_eq_some_iff.1 ho).1)
 rw [ho] at h1
 cases he:es[i]? with
 | none=>rw [he] at h1;cases h1
 | some e =>
  rw [he] at h1
  simp only [Bool.and_eq_true] at h1
  obtain ⟨⟨⟨⟨p1,p2⟩,p3⟩,p4⟩,p5⟩:=h1
  refine ⟨e,rfl,p1,fun k hk=>by simpa using List.all_eq_true.1 p2 k hk,fun p hp=>?_,fun t ht=>?_,fun d hd=>?_⟩
  ·have:=List.all_eq_true.1 p3 p hp
   simp only [Bool.and_eq_true] at this
   refine ⟨by simpa using this.1,?_⟩
   have h2:=this.2
   cases hL:L[p.2]? with
   | none=>rw [hL] at h2;cases h2
   | some o'=>rw [hL] at h2;exact ⟨o',rfl,by simpa using h2⟩
  ·have:=(Array.all_eq_true'.1 p4) _ ht
   simp only [Bool.or_eq_true] at this
   rcases this with h2 | h2
   ·obtain ⟨p,hp,e1⟩:=List.any_eq_true.1 h2
    exact .inl ⟨p,hp,by simpa using e1⟩
   ·exact .inr fun o' ho'=>by simpa using List.all_eq_true.1 h2 o' ho'
  ·rw [hd] at p5
   simp only [Bool.and_eq_true,decide_eq_true_eq] at p5
   refine ⟨p5.1,fun j o' ho' hd'=>?_⟩
   have:=List.all_eq_true.1 p5.2 j (List.mem_range.2 (List.getElem?_eq_some_iff.1 ho').1)
   rw [ho'] at this
   simpa [hd'] using this
structure SInv (σ : AS) (L:List Oper) (rs:List HY) (ρ:Nat→Value) (s:GS) (a:Act) (listed:Array Bool) (g:Nat→Value) (a':Act) (s':GS):Prop where
 le:GS.Le s.dr s'
 asz:a'.tmps.size = a.tmps.size
 adef:a'.defers = a.defers
 closed:∀ j o,L[j]? = some o→listed.getD j false = true→∀ e∈BD o,listed.getD e false = true
 a1:∀ j o d,L[j]? = some o→listed.getD j false = true→o.dst = some d→a'.tmps[d]? = some (g j)
 a2:∀ t,(∀ j o,L[j]? = some o→listed.getD j false = true→o.dst ≠ some t)→a'.tmps[t]? = a.tmps[t]?
 facts:∀ j r,rs[j]? = some r→listed.getD j false = true→SFact σ.hp.length ρ s.w.heap.size (fun k=>listed.getD k false) j r (g j) s'
theorem SInv.put {σ : AS} {L:List Oper} {rs:List HY} {ρ:Nat→Value} {s:GS} {a:Act} {listed:Array Bool} {g:Nat→Value} {a':Act} {s1 s2:GS} {n i:Nat} {o:Oper} {e:List (Nat × Nat)} (inv:SInv σ L rs ρ s a listed g a' s1) (hn:a.tmps.size = n) (hsz:listed.size = L.length) (ho:L[i]? = some o) (hc:ChkS L n i o e) (hun:listed.getD i false = false) (hed:∀ e∈BD o,listed.getD e false = true) {v:Value} (hle:GS.Le s.dr s2)
  (hf:∀ j r,rs[j]? = some r→j ≠ i→listed.getD j false = true→SFact σ.hp.length ρ s.w.heap.size (fun k=>(listed.setIfInBounds i true).getD k false) j r (g j) s2) (hi:∀ r,rs[i]? = some r→SFact σ.hp.length ρ s.w.heap.size (fun k=>(listed.setIfInBounds i true).getD k false) i r v s2) :
  SInv σ L rs ρ s a (listed.setIfInBounds i true) (fun k=>if k = i then v else g k) (a'.put o.dst v) s2:=by
 have hil:i<listed.size:=by rw [hsz];exact (List.getElem?_eq_some_iff.1 ho).1
 have hset:∀ j,(listed.setIfInBounds i true).getD j false = true→j ≠ i→listed.getD j false = true:=fun j h hj=>by
  rw [getD_set_ne false (fun e=>hj e.symm)] at h;exact h
 refine ⟨hle,?_,?_,fun j oj hoj hl k hk=>?_,fun j oj d hoj hl hdj=>?_,fun t ht=>?_,fun j r hr hl=>?_⟩
 ·unfold Act.put;split <;> simp [inv.asz]
 ·unfold Act.put;split <;> simp [inv.adef]
 ·by_cases hji:j = i
  ·subst hji
   obtain rfl:oj = o:=Option.some.inj (hoj.symm.trans ho)
   exact getD_set_true (hed k hk)
  ·exact getD_set_true (inv.closed j oj hoj (hset j hl hji) k hk)
 ·by_cases hji:j = i
  ·subst hji
   obtain rfl:oj = o:=Option.some.inj (hoj.symm.trans ho)
   have hdl:d<a'.tmps.size:=by rw [inv.asz,hn];exact (hc.dst d hdj).1
   simp [Act.put,hdj,hdl]
  ·have hlj:=hset j hl hji
   have hne:o.dst ≠ some d:=fun e'=>hji ((hc.dst d e').2 j oj hoj hdj)
   rw [if_neg hji,← inv.a1 j oj d hoj hlj hdj]
   unfold Act.put
   split
   ·rename_i d' hd'
    have:d' ≠ d:=fun e=>hne (by rw [hd',e])
    simp [Array.getElem?_setIfInBounds_ne this]
   ·rfl
 ·have h2 : o.dst ≠ some t := ht i o ho (by simp [hil])
  rw [← inv.a2 t fun j oj hoj hl=>ht j oj hoj (getD_set_true hl)]
  unfold Act.put
  split
  ·rename_i d' hd'
   have:d' ≠ t:=fun e=>h2 (by rw [hd',e])
   simp [Array.getElem?_setIfInBounds_ne this]
  ·rfl
 ·by_cases hji:j = i
  ·subst hji
   simp only [if_true]
   exact hi r hr
  ·simp only [if_neg hji]
   exact hf j r hr hji (hset j hl hji)
theorem TB {P : Program} {s0:An} {n:Nat} {Q:Exit→AS→Prop} {σ:AS} {id:Nat} {L:List Oper} (hm:P.follows .mixedOrders = true) (es:List (List (Nat × Nat))) (rs:List HY) (hok:YZ L es n = true) (steps:HYSteps P σ rs 0 L es rs) (fin:Q .normal (σ.aftS L rs)):AWp P s0 n (.region id L.toArray true) Q σ:=by
 refine ⟨fun a w ⟨s,ρ,hw,hst⟩=>?_⟩
 subst hw
 obtain ⟨hl1,hl2,hat⟩:=steps.at
 have hn:a.tmps.size = n:=hst.sz
 have hfz:∀ j,(Array.replicate L.toArray.size false).getD j false = false:=fun j=>by
  rcases Nat.lt_or_ge j L.length with h | h
  ·simp [h]
  ·simp [h]
 have hat':∀ {i:Nat} {o:Oper} {e:List (Nat × Nat)},L[i]? = some o→es[i]? = some e→∃ r,rs[i]? = some r∧HYStep P σ rs e i o r:=fun {i o e} ho he=>by
  have hi:=(List.getElem?_eq_some_iff.1 ho).1
  have hr:rs[i]? = some (rs[i]'(by omega)):=List.getElem?_eq_getElem _
  refine ⟨_,hr,?_⟩
  have:=hat i o e _ ho he hr
  rwa [Nat.zero_add] at this
 refine wp_region_any hm (Sd (fun listed a' w'=>∃ g s',s'.w = w'∧SInv σ L rs ρ s a listed g a' s') ?_ ?_ _ _ a s.w.drew (by simp) ?_ ⟨fun _=>undef,s.dr,rfl,GS.Le.refl _,rfl,rfl,(fun j o _ h=>by rw [hfz] at h;cases h),(fun j o d _ h=>by rw [hfz] at h;cases h),fun t _=>rfl,fun j r _ h=>by rw [hfz] at h;cases h⟩)
 ·rintro listed a' _ i hsz ⟨g,s1,rfl,inv⟩ hi
  have hsz:listed.size = L.length:=by simpa using hsz
  obtain ⟨_,o,ho,_⟩:=mem_ready.1 hi
  have ho:L[i]? = some o:=by simpa using ho
  obtain ⟨hun,hed⟩:=(Do hsz ho).1 hi
  obtain ⟨e,he,hc⟩:=Fr hok ho
  obtain ⟨r,hr,hs⟩:=hat' ho he
  have hil:i<listed.size:=by rw [hsz];exact (List.getElem?_eq_some_iff.1 ho).1
  have hle:GS.Le s s1:=(GK s).trans inv.le
  have hhp:=hst.hp.le hle
  have hok1:=hle.ok hst.ok
  have hdone:∀ k,k ≠ i→(listed.setIfInBounds i true).getD k false = listed.getD k false:=fun k hk=>getD_set_ne false fun e=>hk e.symm
  have hnewS:∀ (j:Nat) T k ds,rs[j]? = some (.newS T k ds)→j<L.length→rs[k]? = some (.st j):=fun j T k ds hj hlt=>by
   have hoj:L[j]? = some L[j]:=List.getElem?_eq_getElem hlt
   obtain ⟨ej,hej,_⟩:=Fr hok hoj
   obtain ⟨r',hr',hs'⟩:=hat' hoj hej
   obtain rfl:r' = _:=Option.some.inj (hr'.symm.trans hj)
   exact hs'.2
  have hrlt:∀ (j:Nat) r,rs[j]? = some r→j<L.length:=fun j r hj=>by have:=(List.getElem?_eq_some_iff.1 hj).1;omega
  have hargs:∀ y,y∈o.op.operands→AVr σ.hp.length ρ s1 (Hh σ (rs.map Ml) e y) (a'.eval y):=by
   intro y hy
   cases y with
   | tmp t =>
    show AVr _ ρ s1 (match e.find? (fun p=>p.1 == t) with
     | some p=>match (rs.map Ml)[p.2]? with
      | some h=>h.val
      | none=>.d Ch
     | none=>(Cs σ.fr t).getD (.d Ch)) (a'.tmps.getD t undef)
    cases hfd:e.find? (fun p=>p.1 == t) with
    | some p =>
     have hp:p∈e:=List.mem_of_find?_eq_some hfd
     have hpt:p.1 = t:=by simpa using List.find?_some hfd
     simp only
     rw [List.getElem?_map]
     cases hrp:rs[p.2]? with
     | none=>trivial
     | some h =>
      obtain ⟨hpe,o',ho',hd'⟩:=hc.env p hp
      have h1:=inv.facts p.2 h hrp (hed _ hpe)
      have h2:=inv.a1 p.2 o' p.1 ho' (hed _ hpe) hd'
      have h3:a'.tmps.getD t undef = g p.2:=by rw [← hpt,Array.getD_eq_getD_getElem?,h2];rfl
      rw [h3]
      cases h with
      | av r=>exact h1
      | _=>trivial
    | none =>
     simp only
     have h1:a'.tmps[t]? = a.tmps[t]? := by
      refine inv.a2 t fun j oj hoj _ hdj=>?_
      rcases hc.out t hy with ⟨p,hp,e1⟩ | h
      ·have:=List.find?_eq_none.1 hfd p hp
       simp [e1] at this
      ·exact h oj (List.mem_of_getElem? hoj) hdj
     rw [Array.getD_eq_getD_getElem?,h1,← Array.getD_eq_getD_getElem?]
     exact (hst.arg (.tmp t)).chg hle.chg
   | const v=>exact (show a'.eval (.const v) = v from rfl)
   | global b=>trivial
   | func f=>exact (show a'.eval (.func f) = _ from rfl)
  have ho2:L.toArray[i]? = some o:=by simpa using ho
  have quiet:o.guard = none→(∀ j,r ≠ .st j)→RegG.OpStep P o a'.eval s1 (fun v s2=>GS.Le s1 s2∧SFact σ.hp.length ρ s.w.heap.size (fun k=>(listed.setIfInBounds i true).getD k false) i r v s2)→wpOp P L.toArray (EY s0 n Q) i (fun a' w'=>∃ g s',s'.w = w'∧SInv σ L rs ρ s a (listed.setIfInBounds i true) g a' s') a' s1.w:=by
   intro hg hns h
   unfold wpOp
   rw [ho2]
   show if Region.wanted o (yielded L.toArray a'.tmps) = true then _ else _
   rw [if_pos (by simp [Region.wanted,hg])]
   refine .inl (RegG.opStep_wp hc.ns (fun _ _=>rfl) h fun v s2 ⟨h1,h2⟩=>⟨_,s2,rfl,inv.put hn hsz ho hc hun hed (inv.le.trans h1) (fun j r' hr' hji hl=>?_) fun r' hr'=>?_⟩)
   ·refine (inv.facts j r' hr' hl).st h1 fun T k ds e1=>?_
    subst e1
    refine hdone k fun e2=>?_
    subst e2
    exact hns j (Option.some.inj (hr.symm.trans (hnewS j T k ds hr' (hrlt _ _ hr'))))
   ·obtain rfl:r' = r:=Option.some.inj (hr'.symm.trans hr)
    exact h2
  have hnewrun:∀ T cs,HStep P σ [] e o (.new T cs)→o.guard = none∧T ≠ 136∧EU cs = true∧∃ z:Value,z.cells.toList = cs∧(execOp a'.eval o).run P s1.w = .ok (.value (.pointer (some ⟨s1.w.heap.size,0,none⟩))) (s1.w.alloc (.cells z.cells T)):=fun T cs h=>by
   obtain ⟨hg,hop,hT,h1,d,k,b,z,ht,hz⟩:=h
   exact ⟨hg,hT,h1,z,hz,by simp [execOp,hop,Instr.alloc,ht.run_zero,DQ]⟩
  cases r with
  | av r =>
   exact quiet hs.1 (fun j h=>by cases h) (hs.2.run 0 s1 ρ a'.eval hok1 (Nat.zero_le _) hhp hargs)
  | new T cs =>
   obtain ⟨hg,hT,h1,z,hz,hrun⟩:=hnewrun T cs hs
   subst hz
   refine quiet hg (fun j h=>by cases h) (Js hrun (s1.mk' z.cells T (i+1)) rfl ⟨s1.le_mk' z.cells T (i+1) hT,s1.w.heap.size,rfl,hle.ext.size,heap_alloc_new s1.w _,fun k hk=>absurd (hok1.lt _ _ hk) (Nat.lt_irrefl _),?_,hT,h1⟩)
   show (if s1.w.heap.size = s1.w.heap.size then i+1 else _) = i+1
   rw [if_pos rfl]
  | newS T k ds =>
   obtain ⟨⟨cs,hs,hcl⟩,hk⟩:=hs
   obtain ⟨hg,hT,h1,z,hz,hrun⟩:=hnewrun T cs hs
   subst hz
   refine quiet hg (fun j h=>by cases h) (Js hrun (s1.mk' z.cells T (i+1)) rfl ⟨s1.le_mk' z.cells T (i+1) hT,s1.w.heap.size,z.cells,rfl,hle.ext.size,heap_alloc_new s1.w _,fun k hk=>absurd (hok1.lt _ _ hk) (Nat.lt_irrefl _),?_,hT,by simpa using hcl,fun hd=>?_⟩)
   ·show (if s1.w.heap.size = s1.w.heap.size then i+1 else _) = i+1
    rw [if_pos rfl]
   ·exfalso
    have hki:k ≠ i:=fun e1=>by
     subst e1
     rw [hr] at hk
     cases hk
    have hd:=(hdone k hki).symm.trans hd
    have hok':L[k]? = some (L[k]'(hrlt _ _ hk)):=List.getElem?_eq_getElem _
    obtain ⟨ek,hek,hck⟩:=Fr hok hok'
    obtain ⟨r',hr',hs'⟩:=hat' hok' hek
    obtain rfl:r' = _:=Option.some.inj (hr'.symm.trans hk)
    obtain ⟨_,_,T',x,y,T0,ds',d,b,z',_,hx,_⟩:=hs'
    have:=inv.closed k _ hok' hd i (hck.env _ hx).1
    rw [hun] at this
    cases this
  | st j =>
   obtain ⟨hg,hdn,T,x,y,T0,ds,d,b,z,hop,hx,hrj,hy,ht⟩:=hs
   obtain ⟨hje,oj,hoj,hdj⟩:=hc.env _ hx
   have hlj:=hed _ hje
   obtain ⟨gb,cs,e1,e2,e3,e4,e5,e6,e7,_⟩:=inv.facts j _ hrj hlj
   have hxv:a'.eval (.tmp x) = .pointer (some ⟨gb,0,none⟩):=by
    rw [← e1]
    show a'.tmps.getD x undef = g j
    rw [Array.getD_eq_getD_getElem?,inv.a1 j oj x hoj hlj hdj];rfl
   have hya:=hargs y (by rw [hop];simp [Op.operands])
   rw [hy] at hya
   obtain ⟨vs,p1,p2,p3⟩:=hya
   have hvone:∀ v∈vs.toList,v.oneCell' = true:=fun v hv=>by
    obtain ⟨k,hk,rfl⟩:=List.getElem_of_mem hv
    simp at hk
    obtain ⟨u,h9,h10,_⟩:=p3 k (by omega)
    rw [Array.getElem?_eq_getElem hk] at h9
    cases h9
    simpa using h10
   have hst1:=run_storeCells_at P gb 0 T0 vs.toList 0 cs s1.w e3 (by simp;omega) hvone
   simp only [Nat.add_zero] at hst1
   have hcont:(cs.toList.take 0 ++ vs.toList ++ cs.toList.drop (0+vs.toList.length)).toArray = vs:=by
    rw [List.drop_of_length_le (by simp;omega)]
    simp
   rw [hcont] at hst1
   obtain ⟨W,hW⟩:∃ W,W = s1.w.setRow gb vs:=⟨_,rfl⟩
   rw [← hW] at hst1
   have hrun:(execOp a'.eval o).run P s1.w = .ok .skip W:=by
    simp [execOp,hop,hxv,p1,Instr.storeAt,Instr.sureAddr,storeVar,Value.cells,p2,ht.run_size,hst1]
   have hfar:∀ b,b ≠ gb→W.heap[b]? = s1.w.heap[b]? := fun b hb=>by rw [hW];exact setRow_other s1.w gb b _ (fun e=>hb e)
   have hnew:W.heap[gb]? = some (.cells vs T0 (0,0)):=by rw [hW];exact setRow_heap s1.w gb cs _ T0 _ e3
   have hwsz:W.heap.size = s1.w.heap.size:=by rw [hW];simp [World.setRow]
   have hok2 : s1.Ok → GS.Ok { s1 with w := W } := fun h => Ff h (fun _ _ h => h) (by show _ ≤ W.heap.size; omega) (fun _ _ h => h) fun b ⟨c, fz, hb⟩ => by
    by_cases e:b = gb
    ·subst e
     have hb:W.heap[b]? = _:=hb
     rw [hnew] at hb
     cases hb
     exact absurd rfl e6
    ·exact ⟨c,fz,(hfar b e).symm.trans hb⟩
   have hch : GS.Chg s1 { s1 with w := W } := ⟨by show _ ≤ W.heap.size; omega, fun _ _ h => h, fun b c T fz hb => by
    by_cases e:b = gb
    ·subst e
     rw [e3] at hb
     cases hb
     exact ⟨_,_,hnew,fun k hk=>absurd hk (e4 k)⟩
    ·exact ⟨c,fz,(hfar b e).trans hb,fun _ _=>rfl⟩⟩
   have hdrs:s.dr.w.heap.size = s.w.heap.size:=rfl
   have hle2:GS.Le s.dr { s1 with w:=W }:=by
    refine ⟨⟨?_,?_,?_,?_,fun k hk=>?_⟩,inv.le.up,inv.le.old,inv.le.tag,fun h=>hok2 (inv.le.ok h)⟩
    ·rw [← inv.le.ext.os];rw [hW];rfl
    ·rw [← inv.le.ext.tape];rw [hW];rfl
    ·rw [← inv.le.ext.output];rw [hW];rfl
    ·show _≤W.heap.size
     rw [hwsz]
     exact inv.le.ext.size
    ·show W.heap[k]? = _
     rw [hfar k (by omega)]
     exact inv.le.ext.block hk
   have hfin:SInv σ L rs ρ s a (listed.setIfInBounds i true) (fun k=>if k = i then undef else g k) (a'.put o.dst undef) { s1 with w:=W }:=by
    refine inv.put hn hsz ho hc hun hed hle2 (fun j' r' hr' hji hl=>?_) fun r' hr'=>?_
    ·by_cases hjj:j' = j
     ·subst hjj
      obtain rfl:r' = _:=Option.some.inj (hr'.symm.trans hrj)
      exact ⟨gb,vs,e1,e2,hnew,e4,e5,e6,p2,fun _ k hk=>by
       obtain ⟨u,q1,q2,q3⟩:=p3 k hk
       exact ⟨u,q1,q2,(By ds k).st q3 hch⟩⟩
     ·refine (inv.facts j' r' hr' hl).turn (g:=gb) (tg:=j) hch hfar (fun _ _ h=>h) (fun _=>rfl) e5 hjj fun T' k' ds' e9=>?_
      subst e9
      refine hdone k' fun e10=>?_
      subst e10
      have:=hnewS j' T' k' ds' hr' (hrlt _ _ hr')
      rw [hr] at this
      cases this
      exact hjj rfl
    ·obtain rfl:r' = _:=Option.some.inj (hr'.symm.trans hr)
     trivial
   unfold wpOp
   rw [ho2]
   show if Region.wanted o (yielded L.toArray a'.tmps) = true then _ else _
   rw [if_pos (by simp [Region.wanted,hg])]
   refine .inl ?_
   unfold Oper.wp
   rw [hrun]
   exact ⟨_,_,rfl,hfin⟩
 ·rintro listed a' _ hsz ⟨g,s1,rfl,inv⟩ h0
  have hsz:listed.size = L.length:=by simpa using hsz
  have hall:∀ i,i<L.length→listed.getD i false = true:=by
   intro i
   induction i using Nat.strongRecOn with
   | _ i ih =>
    intro hi
    have ho:L[i]? = some L[i]:=List.getElem?_eq_getElem hi
    obtain ⟨e,he,hc⟩:=Fr hok ho
    cases hg:listed.getD i false with
    | true=>rfl
    | false =>
     have:i∈Region.ready .any L.toArray listed:=(Do hsz ho).2 ⟨hg,fun k hk=>ih k (hc.lt k hk) (by have:=hc.lt k hk;omega)⟩
     rw [h0] at this
     cases this
  have hle:GS.Le s s1:=(GK s).trans inv.le
  have hst':StI s0 n σ a s1 ρ:=hst.put hle (dst:=none) (fun d hd=>by cases hd) (v:=undef) (r:=.d Ch) trivial
  have hdl:∀ o∈L,∀ d,o.dst = some d→d<n:=fun o ho d hd=>by
   obtain ⟨i,hi⟩:=List.getElem?_of_mem ho
   obtain ⟨e,he,hc⟩:=Fr hok hi
   exact (hc.dst d hd).1
  obtain ⟨ρ',hfin⟩:=In (g:=g) (L:=L) (rs:=rs) (i:=0) (W:=s.w.heap.size) (m:=σ.hp.length) (ρ0:=ρ) hl2 hst' (Nat.le_refl _) (fun _ _=>rfl) hst.le.size (fun k o b hk hv=>.inl ((hst.hp k o hk).blk_lt0 (OwB.le (hst.hp k o hk) hle hv))) (fun j r hj=>by
   rw [Nat.zero_add]
   refine (inv.facts j r hj (hall j (by have:=(List.getElem?_eq_some_iff.1 hj).1;omega))).st (GS.Le.refl _) fun T k ds e1=>?_
   subst e1
   have hjl:j<L.length:=by have:=(List.getElem?_eq_some_iff.1 hj).1;omega
   have hoj:L[j]? = some L[j]:=List.getElem?_eq_getElem hjl
   obtain ⟨ej,hej,_⟩:=Fr hok hoj
   obtain ⟨r',hr',hs'⟩:=hat' hoj hej
   obtain rfl:r' = _:=Option.some.inj (hr'.symm.trans hj)
   have:=hs'.2
   exact (hall k (by have:=(List.getElem?_eq_some_iff.1 this).1;omega)).symm) (fun j o k hj hr=>by
   obtain ⟨ej,hej,_⟩:=Fr hok hj
   obtain ⟨r',hr',hs'⟩:=hat' hj hej
   obtain rfl:r' = _:=Option.some.inj (hr'.symm.trans hr)
   exact hs'.2.1) hdl
  have hpa:CU g L 0 a = a':=by
   obtain ⟨q1,q2,q3,q4⟩:=Er (g:=g) L 0 a (fun j k o o' d hj hk e1 e2=>by
    obtain ⟨e,he,hc⟩:=Fr hok hj
    exact ((hc.dst d e1).2 k o' hk e2).symm) (fun o ho d hdo=>by rw [hn];exact hdl o ho d hdo)
   refine Io (Array.ext_getElem? fun t=>?_) (q2.trans inv.adef.symm)
   by_cases ht:∃ (j:Nat) (o:Oper),L[j]? = some o∧o.dst = some t
   ·obtain ⟨j,o,hj,hdo⟩:=ht
    rw [q3 j o t hj hdo,inv.a1 j o t hj (hall j (List.getElem?_eq_some_iff.1 hj).1) hdo]
    simp
   ·rw [q4 t fun j o hj e=>ht ⟨j,o,hj,e⟩,inv.a2 t fun j o hj _ e=>ht ⟨j,o,hj,e⟩]
  rw [hpa] at hfin
  exact ⟨_,fin,s1,ρ',rfl,hfin⟩
 ·rw [← Array.count_toList]
  simp
section
variable {P : Program} {σ:AS} {rs:List HY} {es:List (Nat × Nat)} {i:Nat} {o:Oper}
theorem HYSteps.cons {x : List (Nat × Nat)} {r:HY} {L:List Oper} {S:List (List (Nat × Nat))} {T:List HY} (h:HYStep P σ rs x i o r) (hs:HYSteps P σ rs (i+1) L S T):HYSteps P σ rs i (o :: L) (x :: S) (r :: T):=⟨h,hs⟩
theorem HYSteps.nil : HYSteps P σ rs i [] [] []:=trivial
theorem HYStep.q {r : AV} (hg:o.guard = none) (hq:Quiet P σ.hp o (Hh σ (rs.map Ml) es) r):HYStep P σ rs es i o (.av r):=⟨hg,hq⟩
theorem HYStep.n {T n b k:Nat} {d:TypeDesc} {z:Value} {ds:List D} (hg:o.guard = none) (ht:Tab P T d n b z) (hop:o.op = .alloc T) (hT:Nat.beq T 136 = false) (h1:EU z.cells.toList = true) (hl:z.cells.toList.length = ds.length) (hk:rs[k]? = some (.st i)):HYStep P σ rs es i o (.newS T k ds):=⟨⟨_,HStep.n hg ht hop (Nat.ne_of_beq_eq_false hT) h1,hl⟩,hk⟩
theorem HYStep.s {T x j T0:Nat} {y:Operand} {ds:List D} {d:TypeDesc} {b:Nat} {z:Value} (hg:o.guard = none) (hdn:o.dst = none) (hop:o.op = .store T (.tmp x) y) (hx:(x,j)∈es) (hj:rs[j]? = some (.newS T0 i ds)) (hy:Hh σ (rs.map Ml) es y = .d (BK ds)) (ht:Tab P T d ds.length b z):HYStep P σ rs es i o (.st j):=⟨hg,hdn,T,x,y,T0,ds,d,b,z,hop,hx,hj,hy,ht⟩
end
theorem Sc {P : Program} {s0:An} {n:Nat} {Q:Exit→AS→Prop} {σ τ:AS} {id:Nat} {L:List Oper} (hm:P.follows .mixedOrders = true) (es:List (List (Nat × Nat))) (rs:List HY) (hok:YZ L es n = true) (steps:HYSteps P σ rs 0 L es rs) (hl:AS.le (σ.aftS L rs) τ) (fin:Q .normal τ):AWp P s0 n (.region id L.toArray true) Q σ:=⟨fun a w hs=>by
 refine wp_mono ((TB (Q:=fun e σ'=>e = .normal∧σ' = σ.aftS L rs) hm es rs hok steps ⟨rfl,rfl⟩).run a w hs) fun e a' w' ⟨σ',⟨he,h1⟩,h2⟩=>?_
 subst he;subst h1
 exact ⟨τ,fin,hl _ _ _ _ h2⟩⟩
end Go.Proofs.YtialdhnijjnpaaaGreat
