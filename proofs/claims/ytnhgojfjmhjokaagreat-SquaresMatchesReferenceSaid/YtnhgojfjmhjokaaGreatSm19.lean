/- Part 19 of the proof of squaresMatchesReference_holds. No condition. -/
import Derived.Scope
import Derived.Test.YtnhgojfjmhjokaaGreatSm17
import Derived.Test.YtnhgojfjmhjokaaGreatSm18
set_option linter.unusedSimpArgs false
set_option linter.unusedVariables false
set_option maxRecDepth 100000
namespace Go.Proofs.YtnhgojfjmhjokaaGreat
open Go.RowKit
def A1p (Q : Exit→AS→Prop):Exit→AS→Prop
 | .goto _,_=>False
 | e,σ=>Q e σ
structure ANo (Q : Exit→AS→Prop) (e:Exit) (σ:AS):Prop where
 run:A1p Q e σ
section
variable {P : Program} {s0:An} {n:Nat} {Q:Exit→AS→Prop} {σ:AS}
theorem NJ {c : Code} (h:AWp P s0 n c (ANo Q) σ):AWp P s0 n (.scope c) Q σ:=⟨fun a w hs=>wp_scope_straight (wp_mono (h.run a w hs) fun e a' w' ⟨σ',⟨h1⟩,h2⟩=>by
 cases e with
 | goto l=>exact h1.elim
 | _=>exact ⟨σ',h1,h2⟩)⟩
theorem NK {l : Nat} (h:Q .normal σ):AWp P s0 n (.label l) Q σ:=⟨fun _ _ hs=>wp_label ⟨σ,h,hs⟩⟩
theorem ANo.ret (h : Q .ret σ):ANo Q .ret σ:=⟨h⟩
end
theorem TQ (p q:Rat) (N M:Nat) (hp:RSz p N) (hq:RSz q M) (hN:N+M≤4398046511104) (h0:q.num ≠ 0):Abs Tryz.prog 94 [BI (BH p),BI (BH q)] (CE [BI (BH (p / q)),ex (.int .i64 0)]):=by
 refine Bg (AI Tryz.func94 (by kernel_rfl) (by kernel_rfl)) fun s vs hok hl hv=>?_
 rw [Lc hl]
 obtain ⟨x0,x0',X0,X0',n0,c0,n0',c0',e0,h0'⟩:=BV (hv 0 (by simp))
 obtain ⟨x1,x1',X1,X1',n1,c1,n1',c1',e1,h1⟩:=BV (hv 1 (by simp))
 rw [e0,e1]
 exact (Zz x0 x0' X0 X0' n0 c0 n0' c0' x1 x1' X1 X1' n1 c1 n1' c1' p q N M _ h0' h1 hp hq hN h0).mono fun e w' ⟨y,y',Y,Y',m,k,m',k',he,hI,hE⟩=>⟨_,he,hE,fun s' hw hok' _ _=>by subst hw;exact Yz (Em hok' hI) rfl⟩
theorem Zi (p q:Rat) (N M:Nat) (hp:RSz p N) (hq:RSz q M) (hN:N+M+1≤4398046511104):Abs Tryz.prog 95 [BI (BH p),BI (BH q)] (BI (BH (p - q))):=by
 refine Bg (AI Tryz.func95 (by kernel_rfl) (by kernel_rfl)) fun s vs hok hl hv=>?_
 rw [Lc hl]
 obtain ⟨x0,x0',X0,X0',n0,c0,n0',c0',e0,h0⟩:=BV (hv 0 (by simp))
 obtain ⟨x1,x1',X1,X1',n1,c1,n1',c1',e1,h1⟩:=BV (hv 1 (by simp))
 rw [e0,e1]
 exact (Zh x0 x0' X0 X0' n0 c0 n0' c0' x1 x1' X1 X1' n1 c1 n1' c1' p q N M _ h0 h1 hp hq hN).mono fun e w' ⟨y,y',Y,Y',m,k,m',k',he,hI,hE⟩=>⟨_,he,hE,fun s' hw hok' _ _=>by subst hw;exact Em hok' hI⟩
theorem Vr (p q:Rat) (N M:Nat) (hp:RSz p N) (hq:RSz q M) (hN:N+M+1≤4398046511103):Abs Tryz.prog 97 [BI (BH p),BI (BH q)] (BI (BH (p - q))):=by
 refine Bg (AI Tryz.func97 (by kernel_rfl) (by kernel_rfl)) fun s vs hok hl hv=>?_
 rw [Lc hl]
 obtain ⟨x0,x0',X0,X0',n0,c0,n0',c0',e0,h0⟩:=BV (hv 0 (by simp))
 obtain ⟨x1,x1',X1,X1',n1,c1,n1',c1',e1,h1⟩:=BV (hv 1 (by simp))
 rw [e0,e1]
 exact (XJ x0 x0' X0 X0' n0 c0 n0' c0' x1 x1' X1 X1' n1 c1 n1' c1' p q N M _ h0 h1 hp hq hN).mono fun e w' ⟨y,y',Y,Y',m,k,m',k',he,hI,hE⟩=>⟨_,he,hE,fun s' hw hok' _ _=>by subst hw;exact Em hok' hI⟩
theorem Vw (p : Rat):Abs Tryz.prog 41 [BI (BH p)] (BI (BH (-p))):=by
 refine Bg (AI Tryz.func41 (by kernel_rfl) (by kernel_rfl)) fun s vs hok hl hv=>?_
 rw [Yt hl]
 obtain ⟨x0,x0',X0,X0',n0,c0,n0',c0',e0,h0⟩:=BV (hv 0 (by simp))
 rw [e0]
 exact (QF x0 x0' X0 X0' n0 c0 n0' c0' p _ h0).mono fun e w' ⟨y,y',Y,Y',m,k,m',k',he,hI,hE⟩=>⟨_,he,hE,fun s' hw hok' _ _=>by subst hw;exact Em hok' hI⟩
theorem Lx (p q:Rat):Rat.divInt (p.num*(q.den:Int)) ((p.den:Int)*q.num) = p / q:=by
 rw [Rat.div_def,Rat.inv_def,← Rat.divInt_mul_divInt,Rat.num_divInt_den]
theorem NA (p q:Rat) (N M:Nat) (hp:RSz p N) (hq:RSz q M) (hN:N+M≤4398046511103) (h0:q.num ≠ 0):Abs Tryz.prog 58 [BI (BH p),BI (BH q)] (CE [BI (BH (p / q)),ex (.int .i64 0)]):=by
 have l1:(Am (p.num*(q.den:Int)).natAbs).length≤4398046511103:=Nat.le_trans (Cd hp.1 hq.2) hN
 have l2:(Am ((p.den:Int)*q.num).natAbs).length≤4398046511103:=Nat.le_trans (Cd hp.2 hq.1) hN
 have hd:(p.den:Int)*q.num ≠ 0:=fun e=>by
  rcases Int.mul_eq_zero.1 e with h | h
  ·exact p.den_nz (by omega)
  ·exact h0 h
 refine Ab Tryz.func58 fun s0=>?_
 rw [Tryz.ntmps58]
 apply Y1;refine Bx ?_;refine Bx ?_;refine Al ?_;refine Wa<|Y0<|Ac ?_
 refine Dr [[],[(6,0)],[],[(8,2)],[(7,1),(9,3)],[],[(11,5)],[],[(13,7)],[(12,6),(14,8)],[(10,4),(15,9)],[(16,10)],[(16,10)]] [[],[0],[],[2],[0,1,2,3],[],[5],[],[7],[0,1,2,3,4,5,6,7,8],[0,1,2,3,4,5,6,7,8,9],[0,1,2,3,4,5,6,7,8,9,10],[0,1,2,3,4,5,6,7,8,9,10]] ?_
 refine Xq Ar ?_;refine Xq Ao ?_;refine Xq Ar ?_;refine Xq Ao ?_;refine Xq (Af (DS p.num (q.den:Int) (Nat.le_trans hp.1 (by omega)) (Nat.le_trans hq.2 (by omega)))) ?_;refine Xq Ar ?_;refine Xq Ao ?_;refine Xq Ar ?_;refine Xq Ao ?_;refine Xq (Af (DS (p.den:Int) q.num (Nat.le_trans hp.2 (by omega)) (Nat.le_trans hq.1 (by omega)))) ?_;refine Xq (Af (XM (p.num*(q.den:Int)) ((p.den:Int)*q.num) l1 l2 hd)) ?_;refine Xq Ba ?_;refine Xq Ba ?_;refine ⟨_,rfl,?_⟩
 refine Sf ?_;refine Wa<|Y0 ?_;apply As
 exact AT (BG (ResV.cell rfl rfl (Aa rfl) rfl rfl rfl) (ResV.tmp rfl rfl) (Bu (Bd (by rw [Lx];rfl)) (D.le.refl _)))
open Classical in
theorem Ps (q : Rat) (N:Nat) (h:RSz q N) (hN:N≤1000000000):Abs Tryz.prog 92 [BI (BH q)] (ex (.bool true)):=by
 have hq:VW (decide (q.num<0)) (Am q.num.natAbs) (decide ((q.den:Int)<0)) (Am (q.den:Int).natAbs):=⟨q,rfl,rfl,rfl,rfl⟩
 have:=RB (decide (q.num<0)) (Am q.num.natAbs) (decide ((q.den:Int)<0)) (Am (q.den:Int).natAbs) (Bp _) (Bp _) (Nat.le_trans h.1 hN) (Nat.le_trans h.2 hN)
 rw [decide_eq_true hq] at this
 exact this
structure Sq where
 a:Rat
 p:List Tm
instance : Inhabited Sq:=⟨⟨0,[]⟩⟩
def Yw (s : Sq):List D:=BH s.a ++ [Bs s.p]
def FM (L : List Sq):D:=slD 56 5 (L.map Yw)
def HZ (L : List Sq) (k:Nat):Sq:=L.getD k default
theorem NW {L : List Sq} {k:Nat} (h:k<L.length):HZ L k∈L:=by
 unfold HZ
 rw [List.getD_eq_getElem?_getD,List.getElem?_eq_getElem h]
 exact List.getElem_mem _
theorem Nl {α : Type} (f:α→Sq→α) (b:α) {L:List Sq} {k:Nat} (h:k<L.length):(L.take (k+1)).foldl f b = f ((L.take k).foldl f b) (HZ L k):=by
 rw [List.take_succ_eq_append_getElem h,List.foldl_append]
 simp [HZ,List.getD_eq_getElem?_getD,List.getElem?_eq_getElem h]
def ZU (L : List Sq) (n N K:Nat) (d:Int):Prop:=∀ s∈L,PB s.p n N d∧RSz s.a K
theorem A0b (L : List Sq):(∀ k,k<L.length→0≤(HZ L k).a.num.sign)∨∃ z,z<L.length∧(∀ k,k<z→0≤(HZ L k).a.num.sign)∧(HZ L z).a.num.sign<0:=by
 have key:∀ n,n≤L.length→(∀ k,k<n→0≤(HZ L k).a.num.sign)∨∃ z,z<L.length∧(∀ k,k<z→0≤(HZ L k).a.num.sign)∧(HZ L z).a.num.sign<0:=by
  intro n
  induction n with
  | zero=>exact fun _=>.inl fun k h=>absurd h (Nat.not_lt_zero k)
  | succ n ih =>
   intro hn
   rcases ih (by omega) with h | h
   ·by_cases hk:0≤(HZ L n).a.num.sign
    ·refine .inl fun i hi=>?_
     rcases Nat.lt_or_ge i n with h' | h'
     ·exact h i h'
     ·obtain rfl : i = n := by omega
      exact hk
    ·exact .inr ⟨n,by omega,h,by omega⟩
   ·exact .inr h
 exact key L.length (Nat.le_refl _)
theorem JL (L : List Sq) (hn:L.length≤100000) (h:∀ k,k<L.length→0≤(HZ L k).a.num.sign):Abs Tryz.prog 12 [FM L] (ex (.bool true)):=by
 refine Ab Tryz.func12 fun s0=>?_
 rw [Tryz.ntmps12]
 refine Y1<|Wa<|Y0<|Ac<|Y1<|Wm ?_;refine Wq AR ?_;refine Wm<|Y0<|AWp.block ?_
 refine AJ (fun mz σ=>∃ k,k≤L.length∧mz = L.length - k∧σ = ⟨[(5,.d (FM L)),(6,.d (ex (.int .i64 (L.length:Nat)))),(7,.d (ex (.int .i64 (k:Nat))))],[]⟩) ?le ⟨0,by omega,rfl,rfl⟩ ?round
 case le=>exact Aj (by exact Yd<|Yd<|Yd<|FrLe.nil) (by exact HpLe.nil)
 case round =>
  rintro mz _ ⟨k,hk,rfl,rfl⟩
  by_cases hlt:k<L.length
  ·have hk2:=h k hlt
   apply Y1;refine Wq Ak ?_;refine Y0<|Ac ?_;refine Ct ?_;refine Ys<|Ac<|AWp.block<|Y1 ?_;refine Wq AK ?_;refine Wq At ?_;refine Al ?_;refine Sf ?_;refine Y0<|Y1 ?_;refine Wq Ar ?_;refine Wq Ao ?_;refine Wq (Af (BX (HZ L k).a)) ?_;refine Wq Ai ?_;apply Y0;refine Cf ?_;apply Bi;apply Ah;refine Yn<|AWp.region ?_;refine Wq AQ ?_;refine Wm ?_;apply AWl.nil
   refine ALoop.next (L.length - (k+1)) (by omega) ⟨k+1,by omega,rfl,rfl⟩ ?_
   exact Aj (by exact Yd<|Yd<|Yd<|FrLe.nil) (by exact HpLe.nil)
  ·obtain rfl : k = L.length := by omega
   apply Y1;refine Wq Ai ?_;refine Y0<|Ac ?_;refine Cf ?_;apply AL;apply Aw;apply AD;apply Az;refine Yn<|Y1<|Wa<|Y0 ?_;apply As
   exact Yf
theorem MS (L : List Sq) (hn:L.length≤100000) (z:Nat) (hz:z<L.length) (h:∀ k,k<z→0≤(HZ L k).a.num.sign) (hneg:(HZ L z).a.num.sign<0):Abs Tryz.prog 12 [FM L] (ex (.bool false)):=by
 refine Ab Tryz.func12 fun s0=>?_
 rw [Tryz.ntmps12]
 refine Y1<|Wa<|Y0<|Ac<|Y1<|Wm ?_;refine Wq AR ?_;refine Wm<|Y0<|AWp.block ?_
 refine AJ (fun mz σ=>∃ k,k≤z∧mz = z - k∧σ = ⟨[(5,.d (FM L)),(6,.d (ex (.int .i64 (L.length:Nat)))),(7,.d (ex (.int .i64 (k:Nat))))],[]⟩) ?le ⟨0,by omega,rfl,rfl⟩ ?round
 case le=>exact Aj (by exact Yd<|Yd<|Yd<|FrLe.nil) (by exact HpLe.nil)
 case round =>
  rintro mz _ ⟨k,hk,rfl,rfl⟩
  by_cases hlt:k<z
  ·have hk2:=h k hlt
   apply Y1;refine Wq Ak ?_;refine Y0<|Ac ?_;refine Ct ?_;refine Ys<|Ac<|AWp.block<|Y1 ?_;refine Wq AK ?_;refine Wq At ?_;refine Al ?_;refine Sf ?_;refine Y0<|Y1 ?_;refine Wq Ar ?_;refine Wq Ao ?_;refine Wq (Af (BX (HZ L k).a)) ?_;refine Wq Ai ?_;apply Y0;refine Cf ?_;apply Bi;apply Ah;refine Yn<|AWp.region ?_;refine Wq AQ ?_;refine Wm ?_;apply AWl.nil
   refine ALoop.next (z - (k+1)) (by omega) ⟨k+1,by omega,rfl,rfl⟩ ?_
   exact Aj (by exact Yd<|Yd<|Yd<|FrLe.nil) (by exact HpLe.nil)
  ·obtain rfl : k = z := by omega
   apply Y1;refine Wq Ak ?_;refine Y0<|Ac ?_;refine Ct ?_;refine Ys<|Ac<|AWp.block<|Y1 ?_;refine Wq AK ?_;refine Wq At ?_;refine Al ?_;refine Sf ?_;refine Y0<|Y1 ?_;refine Wq Ar ?_;refine Wq Ao ?_;refine Wq (Af (BX (HZ L k).a)) ?_;refine Wq Ak ?_;apply Y0;refine Ct ?_;refine Y1<|Wa<|Y0 ?_;apply As;apply Bk;apply AM;apply CR;apply Bk;apply AM
   exact Yf
def Mx (S : List Tm) (s:Sq):List Tm:=CX S (Eg s.a (Fw s.p s.p))
def Gw (L : List Sq):List Tm:=L.foldl Mx []
theorem Wo {s : Sq} {n N K:Nat} {d:Int} (h:PB s.p n N d) (hk:RSz s.a K) (h0:0≤d):PB (Eg s.a (Fw s.p s.p)) (n*n) (K+n*(N+N+1)) (d+d):=KL (h.mul h h0 h0) hk
theorem JJ {L : List Sq} {n N K:Nat} {d:Int} (h:ZU L n N K d) (h0:0≤d):∀ k,k≤L.length→PB (Gw (L.take k)) (k*(n*n)) (k*(K+n*(N+N+1)+1)) (d+d)
 | 0,_=>PB.nil
 | k+1,hk=>by
  have ih:=JJ h h0 k (by omega)
  have hs:=h _ (NW (show k<L.length by omega))
  have h1:=ih.add (Wo hs.1 hs.2 h0)
  have e:Gw (L.take (k+1)) = Mx (Gw (L.take k)) (HZ L k):=Nl Mx [] (by omega)
  rw [e]
  exact h1.mono (by rw [Nat.succ_mul];exact Nat.le_refl _) (by rw [Nat.succ_mul];omega) (by omega)
theorem Pc {L : List Sq} {k:Nat} (h:k<L.length):Gw (L.take (k+1)) = Mx (Gw (L.take k)) (HZ L k):=Nl Mx [] h
theorem Wk (S : List Tm) (s:Sq) (n N K n' N':Nat) (d d':Int) (hS:PB S n' N' d') (hp:PB s.p n N d) (ha:RSz s.a K) (h0:0≤d) (hd:d+d≤65535) (hn:n*n≤100000) (hn':n'+n*n≤100000) (hN:N+N+1≤10000000) (hK:n*(N+N+1)+K+N'+1≤4398046511103):Abs Tryz.prog 44 [Bs S,BI (Yw s)] (CE [Bs (Mx S s),ex (.int .i64 0)]):=by
 have hm:=hp.mul hp h0 h0
 have hml:=hm.len
 have hsq:=Wo hp ha h0
 by_cases hz:s.a = 0
 ·have e : Mx S s = CX S [] := by rw [Mx, Eg, if_pos hz]
  have hnil:PB ([]:List Tm) 0 0 0:=PB.nil
  refine Ab Tryz.func44 fun s0=>?_
  rw [Tryz.ntmps44]
  apply Y1;refine Bx ?_;refine Wa<|Wa<|Y0<|Y1 ?_;refine Wq Ar ?_;refine Wq AA ?_;refine Wq Ar ?_;refine Wq AA ?_;refine Wq (Af (OR hp hp h0 h0 hd hn hN)) ?_;refine Wm ?_;refine Wq Ba ?_;refine Wq Ba ?_;refine Wa<|Wa<|Y0<|Ac<|Y1<|Wm ?_;refine Wq Ai ?_;apply Y0;refine Cf ?_;refine Ys<|Y1 ?_;refine Wq Ar ?_;refine Wq Ao ?_;(refine BO rfl rfl ?_;(refine ER (Aa rfl) (Aa rfl) rfl rfl ?_;(repeat ((first | refine ⟨_,AH (ao rfl),?_⟩ | refine ⟨_,Po rfl,?_⟩);refine ⟨_,rfl,?_⟩));refine ⟨_,rfl,?_⟩));refine Wm ?_;refine Wq (Af (QU s.a (fun _=>0) (Fw s.p s.p) hz)) ?_;refine Wm ?_;refine Wq Ba ?_;refine Wq Ba ?_;refine Wa<|Wa<|Y0<|Y1<|Wm<|Wm ?_;refine Wq (Af (Jz hS hnil (by omega) (by omega))) ?_;refine Wm<|Wa<|Wa<|Y0 ?_;apply As
  exact AT (BG (ResV.tmp rfl rfl) (ResV.tmp rfl rfl) (Bu (CH e.symm) (D.le.refl _)))
 ·have e : Mx S s = CX S (Mv s.a (fun _ => 0) (Fw s.p s.p)) := by rw [Mx, Eg, if_neg hz]
  rw [Eg,if_neg hz] at hsq
  refine Ab Tryz.func44 fun s0=>?_
  rw [Tryz.ntmps44]
  apply Y1;refine Bx ?_;refine Wa<|Wa<|Y0<|Y1 ?_;refine Wq Ar ?_;refine Wq AA ?_;refine Wq Ar ?_;refine Wq AA ?_;refine Wq (Af (OR hp hp h0 h0 hd hn hN)) ?_;refine Wm ?_;refine Wq Ba ?_;refine Wq Ba ?_;refine Wa<|Wa<|Y0<|Ac<|Y1<|Wm ?_;refine Wq Ai ?_;apply Y0;refine Cf ?_;refine Ys<|Y1 ?_;refine Wq Ar ?_;refine Wq Ao ?_;(refine BO rfl rfl ?_;(refine ER (Aa rfl) (Aa rfl) rfl rfl ?_;(repeat ((first | refine ⟨_,AH (ao rfl),?_⟩ | refine ⟨_,Po rfl,?_⟩);refine ⟨_,rfl,?_⟩));refine ⟨_,rfl,?_⟩));refine Wm ?_;refine Wq (Af (SH s.a (fun _=>0) (Fw s.p s.p) K (n*(N+N+1)) hz ha In8.zero hm.sz (hm.ex.mono (Int.le_refl _) hd) (fun t ht=>by rw [Gu];exact (hm.ex.mono (Int.le_refl _) hd) t ht) (by omega) (by omega))) ?_;refine Wm ?_;refine Wq Ba ?_;refine Wq Ba ?_;refine Wa<|Wa<|Y0<|Y1<|Wm<|Wm ?_;refine Wq (Af (Jz hS hsq (by omega) (by omega))) ?_;refine Wm<|Wa<|Wa<|Y0 ?_;apply As
  exact AT (BG (ResV.tmp rfl rfl) (ResV.tmp rfl rfl) (Bu (CH e.symm) (D.le.refl _)))
theorem UN (L : List Sq) (n N K:Nat) (d:Int) (h:ZU L n N K d) (h0:0≤d) (hL:L.length≤100) (hd:d+d≤65535) (hn:n≤30) (hN:N≤1000000) (hK:K≤1000000):Abs Tryz.prog 43 [FM L,ex (.func (.func 44) #[] #[])] (CE [Bs (Gw L),ex (.int .i64 0)]):=by
 have hnn:n*n≤30*30:=Nat.mul_le_mul hn hn
 have hnN:n*(N+N+1)≤30*2000001:=Nat.mul_le_mul hn (by omega)
 refine Ab Tryz.func43 fun s0=>?_
 rw [Tryz.ntmps43]
 refine Y1<|Wa<|Wa<|Y0 ?_;apply NJ;refine Y1<|Wa<|Y0<|Y1<|Wa<|Y0<|Ac ?_;apply NK;refine Yn<|Ac<|Y1<|Wm ?_;refine Wq AR ?_;refine Wm<|Y0<|AWp.block ?_
 refine AJ (fun mz σ=>∃ k,k≤L.length∧mz = L.length - k∧σ = ⟨[(1,.d (ex (.func (.func 44) #[] #[]))),(6,.d (Bs (Gw (L.take k)))),(7,.d (ex (.int .i64 0))),(10,.d (FM L)),(11,.d (ex (.int .i64 (L.length:Nat)))),(12,.d (ex (.int .i64 (k:Nat))))],[]⟩) ?le ⟨0,by omega,rfl,rfl⟩ ?round
 case le=>exact Aj (by exact Yd<|FrLe.cons rfl (AVle.le Fo)<|Yd<|Yd<|Yd<|Yd<|FrLe.nil) (by exact HpLe.nil)
 case round =>
  rintro mz _ ⟨k,hk,rfl,rfl⟩
  by_cases hlt:k<L.length
  ·have hm:=NW hlt
   have hs:=h _ hm
   have hst:=Pc hlt
   have hb:=JJ h h0 k (by omega)
   have hkn:k*(n*n)≤100*900:=Nat.mul_le_mul (by omega) (by omega)
   have hkN:k*(K+n*(N+N+1)+1)≤100*70000000:=Nat.mul_le_mul (by omega) (by omega)
   apply Y1;refine Wq Ak ?_;refine Y0<|Ac ?_;refine Ct ?_;refine Ys<|Ac<|AWp.block<|Y1 ?_;refine Wq AK ?_;refine Wq At ?_;refine Al ?_;refine Sf ?_;refine Y0<|Y1<|Wm<|Wm ?_;refine Wq Ao ?_;refine Wq (Af (Wk (Gw (L.take k)) (HZ L k) n N K (k*(n*n)) (k*(K+n*(N+N+1)+1)) d (d+d) hb hs.1 hs.2 h0 hd (by omega) (by omega) (by omega) (by omega))) ?_;refine Wm ?_;refine Wq Ba ?_;refine Wq Ba ?_;refine Wa<|Wa<|Y0<|Y1<|Wm ?_;refine Wq Ai ?_;apply Y0;refine Cf ?_;apply Bi;apply Ah;refine Yn<|AWp.region ?_;refine Wq AQ ?_;refine Wm ?_;apply AWl.nil
   refine ALoop.next (L.length - (k+1)) (by omega) ⟨k+1,by omega,rfl,rfl⟩ ?_
   exact Aj (by exact Yd<|FrLe.cons rfl (AVle.le (CH hst.symm))<|Yd<|Yd<|Yd<|Yd<|FrLe.nil) (by exact HpLe.nil)
  ·obtain rfl : k = L.length := by omega
   apply Y1;refine Wq Ai ?_;refine Y0<|Ac ?_;refine Cf ?_;apply AL;apply Aw;apply AD;apply Az;refine Yn<|Y1<|Wm<|Wm<|Wa<|Wa<|Y0 ?_;apply As;apply ANo.ret
   exact AT (BG (ResV.tmp rfl rfl) (ResV.tmp rfl rfl) (Bu (CH (by rw [List.take_length])) (D.le.refl _)))
theorem Ls (L : List Sq) (n N K:Nat) (d:Int) (h:ZU L n N K d) (h0:0≤d) (hL:L.length≤100) (hd:d+d≤65535) (hn:n≤30) (hN:N≤1000000) (hK:K≤1000000):Abs Tryz.prog 9 [FM L] (CE [Bs (Gw L),ex (.int .i64 0)]):=by
 refine Ab Tryz.func9 fun s0=>?_
 rw [Tryz.ntmps9]
 refine Y1<|Wa<|Wa<|Y0<|Y1<|Wm ?_;refine Wq (Af (UN L n N K d h h0 hL hd hn hN hK)) ?_;refine Wq Ba ?_;refine Wq Ba ?_;refine Wa<|Wa<|Y0 ?_;apply As
 exact AT (BG (ResV.tmp rfl rfl) (ResV.tmp rfl rfl) (Bu (D.le.refl _) (D.le.refl _)))
theorem Sd (L : List Sq) (hn:L.length≤100000) (h:∀ k,k<L.length→0≤(HZ L k).a.num.sign):Abs Tryz.prog 13 [FM L] (ex (.bool true)):=by
 refine Ab Tryz.func13 fun s0=>?_
 rw [Tryz.ntmps13]
 refine Y1<|Wa<|Y0<|Ac<|Y1<|Wa<|Y0<|AWp.block ?_
 refine AJ (fun mz σ=>∃ k,k≤L.length∧mz = L.length - k∧σ = ⟨[(0,.d (FM L)),(3,.d (ex (.int .i64 (k:Nat))))],[]⟩) ?le ⟨0,by omega,rfl,rfl⟩ ?round
 case le=>exact Aj (by exact Yd<|Yd<|FrLe.nil) (by exact HpLe.nil)
 case round =>
  rintro mz _ ⟨k,hk,rfl,rfl⟩
  by_cases hlt:k<L.length
  ·have hk2:=h k hlt
   refine Ac<|Y1<|Wm<|Wm ?_;refine Wq AR ?_;refine Wq Ak ?_;apply Y0;refine Ct ?_;refine Ys<|Ac<|AWp.block<|Y1<|Wm<|Wm ?_;refine Wq AK ?_;refine Wq Bn ?_;refine Wq DH ?_;refine Wq (Af (Bt (HZ L k).a)) ?_;refine Wq Ai ?_;apply Y0;refine Cf ?_;apply Bi;apply Ah;refine Yn<|AWp.region<|Wm ?_;refine Wq AQ ?_;refine Wa ?_;apply AWl.nil
   refine ALoop.next (L.length - (k+1)) (by omega) ⟨k+1,by omega,rfl,rfl⟩ ?_
   exact Aj (by exact Yd<|Yd<|FrLe.nil) (by exact HpLe.nil)
  ·obtain rfl : k = L.length := by omega
   refine Ac<|Y1<|Wm<|Wm ?_;refine Wq AR ?_;refine Wq Ai ?_;apply Y0;refine Cf ?_;apply AL;apply Aw;apply AD;apply Az;refine Yn<|Y1<|Wa<|Y0 ?_;apply As
   exact Yf
theorem Se (L : List Sq) (hn:L.length≤100000) (z:Nat) (hz:z<L.length) (h:∀ k,k<z→0≤(HZ L k).a.num.sign) (hneg:(HZ L z).a.num.sign<0):Abs Tryz.prog 13 [FM L] (ex (.bool false)):=by
 refine Ab Tryz.func13 fun s0=>?_
 rw [Tryz.ntmps13]
 refine Y1<|Wa<|Y0<|Ac<|Y1<|Wa<|Y0<|AWp.block ?_
 refine AJ (fun mz σ=>∃ k,k≤z∧mz = z - k∧σ = ⟨[(0,.d (FM L)),(3,.d (ex (.int .i64 (k:Nat))))],[]⟩) ?le ⟨0,by omega,rfl,rfl⟩ ?round
 case le=>exact Aj (by exact Yd<|Yd<|FrLe.nil) (by exact HpLe.nil)
 case round =>
  rintro mz _ ⟨k,hk,rfl,rfl⟩
  by_cases hlt:k<z
  ·have hk2:=h k hlt
   refine Ac<|Y1<|Wm<|Wm ?_;refine Wq AR ?_;refine Wq Ak ?_;apply Y0;refine Ct ?_;refine Ys<|Ac<|AWp.block<|Y1<|Wm<|Wm ?_;refine Wq AK ?_;refine Wq Bn ?_;refine Wq DH ?_;refine Wq (Af (Bt (HZ L k).a)) ?_;refine Wq Ai ?_;apply Y0;refine Cf ?_;apply Bi;apply Ah;refine Yn<|AWp.region<|Wm ?_;refine Wq AQ ?_;refine Wa ?_;apply AWl.nil
   refine ALoop.next (z - (k+1)) (by omega) ⟨k+1,by omega,rfl,rfl⟩ ?_
   exact Aj (by exact Yd<|Yd<|FrLe.nil) (by exact HpLe.nil)
  ·obtain rfl : k = z := by omega
   refine Ac<|Y1<|Wm<|Wm ?_;refine Wq AR ?_;refine Wq Ak ?_;apply Y0;refine Ct ?_;refine Ys<|Ac<|AWp.block<|Y1<|Wm<|Wm ?_;refine Wq AK ?_;refine Wq Bn ?_;refine Wq DH ?_;refine Wq (Af (Bt (HZ L k).a)) ?_;refine Wq Ak ?_;apply Y0;refine Ct ?_;refine Y1<|Wa<|Y0 ?_;apply As;apply Bk;apply AM;apply CR;apply Bk;apply AM
   exact Yf
theorem Vk (L : List Sq) (n N K:Nat) (d:Int) (h:ZU L n N K d) (h0:0≤d) (hL:L.length≤100) (hd:d+d≤65535) (hn:n≤30) (hN:N≤1000000) (hK:K≤1000000):Abs Tryz.prog 10 [FM L] (CE [Bs (Gw L),ex (.int .i64 0)]):=by
 have hnn:n*n≤30*30:=Nat.mul_le_mul hn hn
 have hnN:n*(N+N+1)≤30*2000001:=Nat.mul_le_mul hn (by omega)
 refine Ab Tryz.func10 fun s0=>?_
 rw [Tryz.ntmps10]
 refine Y1<|Wa<|Wa<|Y0<|Y1 ?_;refine CM (Aa rfl) (Aa rfl) rfl rfl rfl rfl rfl ?_;refine Wa<|Y0<|Ac<|Y1<|Wa<|Y0<|AWp.block ?_
 refine AJ (fun mz σ=>∃ k,k≤L.length∧mz = L.length - k∧σ = ⟨[(0,.d (FM L)),(4,.d (Bs (Gw (L.take k)))),(5,.d (ex (.int .i64 (k:Nat))))],[]⟩) ?le ⟨0,by omega,rfl,rfl⟩ ?round
 case le=>exact Aj (by exact Yd<|FrLe.cons rfl (Fp rfl (D.le.refl _))<|Yd<|FrLe.nil) (by exact HpLe.nil)
 case round =>
  rintro mz _ ⟨k,hk,rfl,rfl⟩
  by_cases hlt:k<L.length
  ·have hm:=NW hlt
   obtain ⟨hp,ha⟩:=h _ hm
   have hst:=Pc hlt
   have hb:=JJ h h0 k (by omega)
   have hkn:k*(n*n)≤100*900:=Nat.mul_le_mul (by omega) (by omega)
   have hkN:k*(K+n*(N+N+1)+1)≤100*70000000:=Nat.mul_le_mul (by omega) (by omega)
   have hpm:=hp.mul hp h0 h0
   have hml:=hpm.len
   refine Ac<|Y1<|Wm<|Wm ?_;refine Wq AR ?_;refine Wq Ak ?_;apply Y0;refine Ct ?_;refine Ys<|Ac<|AWp.block<|Ac ?_
   refine Fj (Db (e:=13) (by kernel_rfl) (K4 (K4 (K4 (AddE.keep (AddE.keep (AddE.add (AddE.keep AddE.nil))))))) (by kernel_rfl)) [[],[],[(16,0),(17,1)],[(18,2)],[(19,3)],[],[],[(21,5),(22,6)],[(23,7)],[(24,8)],[(20,4),(25,9)],[(26,10)],[(15,11)],[(15,11)]] [[],[],[0,1],[0,1,2],[0,1,2,3],[],[],[5,6],[5,6,7],[5,6,7,8],[0,1,2,3,4,5,6,7,8,9],[0,1,2,3,4,5,6,7,8,9,10],[0,1,2,3,4,5,6,7,8,9,10,11],[0,1,2,3,4,5,6,7,8,9,10,11]] rfl (by kernel_rfl) (by kernel_rfl) (by kernel_rfl) ?_
   refine Xq Ae ?_;refine Xq Ae ?_;refine Xq AK ?_;refine Xq Bn ?_;refine Xq Bf ?_;refine Xq Ae ?_;refine Xq Ae ?_;refine Xq AK ?_;refine Xq Bn ?_;refine Xq Bf ?_;refine Xq (Af (QE hp hp h0 h0 hd (by omega) (by omega) (by omega))) ?_;refine Xq Ae ?_;refine Xq Ba ?_;refine Xq Ba ?_;refine ⟨_,rfl,?_⟩
   refine Wa<|Wa ?_;apply AWl.nil;apply OnlyN.mk';refine Yn<|Ac<|Y1<|Wm ?_;refine Wq Ai ?_;apply Y0;refine Cf ?_;refine Ys<|AWp.region<|Wm<|Wm<|Wm ?_;refine Wq AK ?_;refine Wq Bn ?_;refine Wq DH ?_;refine Wm ?_;refine Wq (Af (FI (HZ L k).a (Fw (HZ L k).p (HZ L k).p) K (n*(N+N+1)) ha hpm.sz (hpm.ex.mono (Int.le_refl _) hd) (by omega) (by omega))) ?_;refine Wq (Af (KV hb (Wo hp ha h0) (by omega) (by omega))) ?_;refine Wa ?_;apply AWl.nil;apply Ah;refine Yn<|AWp.region<|Wm ?_;refine Wq AQ ?_;refine Wa ?_;apply AWl.nil
   refine ALoop.next (L.length - (k+1)) (by omega) ⟨k+1,by omega,rfl,rfl⟩ ?_
   exact Aj (by exact Yd<|FrLe.cons rfl (AVle.le (CH hst.symm))<|Yd<|FrLe.nil) (by exact HpLe.nil)
  ·obtain rfl : k = L.length := by omega
   refine Ac<|Y1<|Wm<|Wm ?_;refine Wq AR ?_;refine Wq Ai ?_;apply Y0;refine Cf ?_;apply AL;apply Aw;apply AD;apply Az;refine Yn<|Y1<|Wm<|Wa<|Wa<|Y0 ?_;apply As
   exact AT (BG (ResV.tmp rfl rfl) (ResV.tmp rfl rfl) (Bu (CH (by rw [List.take_length])) (D.le.refl _)))
theorem EA (L : List Sq) (hL:L.length≤100000):Abs Tryz.prog 19 [FM L,FM L] (ex (.bool true)):=by
 refine Ab Tryz.func19 fun s0=>?_
 rw [Tryz.ntmps19]
 refine Y1<|Wa<|Y0<|Ac<|Y1<|Wm ?_;refine Wq AR ?_;refine Wm ?_;refine Wq AR ?_;refine Wq Ai ?_;apply Y0;refine Cf ?_;refine Ys<|Ac<|Y1<|Wa<|Y0<|AWp.block ?_
 refine AJ (fun mz σ=>∃ k,k≤L.length∧mz = L.length - k∧σ = ⟨[(0,.d (FM L)),(1,.d (FM L)),(5,.d (ex (.int .i64 (k:Nat))))],[]⟩) ?le ⟨0,by omega,rfl,rfl⟩ ?round
 case le=>exact Aj (by exact Yd<|Yd<|Yd<|FrLe.nil) (by exact HpLe.nil)
 case round =>
  rintro mz _ ⟨k,hk,rfl,rfl⟩
  by_cases hlt:k<L.length
  ·refine Ac<|Y1<|Wm<|Wm ?_;refine Wq AR ?_;refine Wq Ak ?_;apply Y0;refine Ct ?_;refine Ys<|Ac<|AWp.block<|Ac ?_
   refine Dr [[],[],[(17,0),(18,1)],[(19,2)],[(20,3)],[],[],[(22,5),(23,6)],[(24,7)],[(25,8)],[(21,4),(26,9)],[(27,10)],[(28,11)],[],[],[(30,13),(31,14)],[(32,15)],[(33,16)],[],[],[(35,18),(36,19)],[(37,20)],[(38,21)],[(34,17),(39,22)],[(40,23)],[(29,12),(41,24)]] [[],[],[0,1],[0,1,2],[0,1,2,3],[],[],[5,6],[5,6,7],[5,6,7,8],[0,1,2,3,4,5,6,7,8,9],[0,1,2,3,4,5,6,7,8,9,10],[0,1,2,3,4,5,6,7,8,9,10,11],[0,1,2,3,4,5,6,7,8,9,10,11,12],[0,1,2,3,4,5,6,7,8,9,10,11,12],[0,1,2,3,4,5,6,7,8,9,10,11,12,13,14],[0,1,2,3,4,5,6,7,8,9,10,11,12,13,14,15],[0,1,2,3,4,5,6,7,8,9,10,11,12,13,14,15,16],[0,1,2,3,4,5,6,7,8,9,10,11,12],[0,1,2,3,4,5,6,7,8,9,10,11,12],[0,1,2,3,4,5,6,7,8,9,10,11,12,18,19],[0,1,2,3,4,5,6,7,8,9,10,11,12,18,19,20],[0,1,2,3,4,5,6,7,8,9,10,11,12,18,19,20,21],[0,1,2,3,4,5,6,7,8,9,10,11,12,13,14,15,16,17,18,19,20,21,22],[0,1,2,3,4,5,6,7,8,9,10,11,12,13,14,15,16,17,18,19,20,21,22,23],[0,1,2,3,4,5,6,7,8,9,10,11,12,13,14,15,16,17,18,19,20,21,22,23,24]] ?_
   refine Xq Ae ?_;refine Xq Ae ?_;refine Xq AK ?_;refine Xq Bn ?_;refine Xq DH ?_;refine Xq Ae ?_;refine Xq Ae ?_;refine Xq AK ?_;refine Xq Bn ?_;refine Xq DH ?_;refine Xq (Af (Gd (rfl:(HZ L k).a = (HZ L k).a))) ?_;refine Xq Bj ?_;refine Xq Ae ?_;refine Xg Ae ?_;refine Xg Ae ?_;refine Xg AK ?_;refine Xg Bn ?_;refine Xg Bf ?_;refine Xg Ae ?_;refine Xg Ae ?_;refine Xg AK ?_;refine Xg Bn ?_;refine Xg Bf ?_;refine Xg (Af (IM (SameL.refl (HZ L k).p))) ?_;refine Xg Bj ?_;refine Xq AG ?_;refine ⟨_,rfl,?_⟩
   apply Y0;refine Cf ?_;apply Bi;apply Ah;refine Yn<|AWp.region<|Wm ?_;refine Wq AQ ?_;refine Wa ?_;apply AWl.nil
   refine ALoop.next (L.length - (k+1)) (by omega) ⟨k+1,by omega,rfl,rfl⟩ ?_
   exact Aj (by exact Yd<|Yd<|Yd<|FrLe.nil) (by exact HpLe.nil)
  ·obtain rfl : k = L.length := by omega
   refine Ac<|Y1<|Wm<|Wm ?_;refine Wq AR ?_;refine Wq Ai ?_;apply Y0;refine Cf ?_;apply AL;apply Aw;apply AD;apply Az;refine Yn<|Y1<|Wa<|Y0 ?_;apply As
   exact Yf
section
variable {P : Program} {s0:An} {n:Nat} {ops:Array Oper} {Q:Exit→AS→Prop} {rest:List Oper} {fr:List (Nat × AV)} {hp hp':List Ow} {ty:TypeId} {ps:String} {af:Array Edge}
theorem ZD {T : TypeId} {x:Operand} {y:D} {k t:Nat} (hx:AS.arg ⟨fr,hp⟩ x = .d y) (h1:One hp (.d y)) (hT:Nat.beq T 139 = false) (hd:Nat.blt t n = true) (hk:GT hp = some k) (hs:Ei hp (.var T ([y].map .d)) = some hp') (h:AWl P s0 n ops Q rest ⟨(t,.ptr k 0) :: fr,hp'⟩):AWl P s0 n ops Q (⟨some t,.box T x,ty,ps,af,none⟩ :: rest) ⟨fr,hp⟩:=by
 obtain rfl:=EF hk
 rw [DC hs] at h
 refine AWl.step rfl fun s ρ a hst K hK=>?_
 have hx':=hst.arg x
 rw [hx] at hx'
 have h1':=h1 _ _ _ _ hst.hp hx'
 have hcs:(a.eval x).cells = #[a.eval x]:=by cases hv:a.eval x <;> first | rfl | (rw [hv] at h1';cases h1')
 have hrun:(execOp a.eval ⟨some t,.box T x,ty,ps,af,none⟩).run P s.w = .ok (.value (.pointer (some ⟨s.w.heap.size,0,none⟩))) (s.w.alloc (.cells #[a.eval x] T)):=by
  simp only [execOp,Instr.box,Sem.run_bind,GM,Result.andThen_ok,Sem.run_pure,hcs]
 unfold Oper.wp
 rw [hrun]
 have hT':=Nat.ne_of_beq_eq_false hT
 refine hK _ _ _ h ⟨s.mk' #[a.eval x] T 0,_,rfl,hst.new (s.le_mk' _ T 0 hT') (dst:=some t) (fun d hd'=>by cases hd';simpa [Nat.blt_eq] using hd) (u:=.pointer (some ⟨s.w.heap.size,0,none⟩)) ⟨by simp,s.w.heap.size,by simp,rfl⟩ ?_ fun b hb=>by cases hb;exact Nat.le_refl _⟩
 refine ⟨s.w.heap.size,#[a.eval x],by simp,Nat.zero_le _,heap_alloc_new s.w _,by simp,hT',fun k hk=>absurd (hst.ok.lt _ _ hk) (Nat.lt_irrefl _),fun k av hk=>?_⟩
 cases k with
 | zero=>cases hk;exact ⟨a.eval x,by simp,h1',y.st hx' (s.le_mk' _ T 0 hT').chg⟩
 | succ k=>cases hk
end
def Yx (l : List (List Tm)):D:=slD 31 1 (l.map fun p=>[Bs p])
def pAt (l : List (List Tm)) (k:Nat):List Tm:=l.getD k default
theorem KP {l : List (List Tm)} {k:Nat} (h:k<l.length):pAt l k∈l:=by
 unfold pAt
 rw [List.getD_eq_getElem?_getD,List.getElem?_eq_getElem h]
 exact List.getElem_mem _
def Zv (l : List (List Tm)) (n N:Nat) (d:Int):Prop:=∀ p∈l,PB p n N d
def Hk (C l:List (List Tm)):Nat→List Tm
 | 0=>[]
 | k+1=>CX (Hk C l k) (Fw (pAt C k) (pAt l k))
theorem KO {C l:List (List Tm)} {n N n' N':Nat} {d d':Int} (hC:Zv C n N d) (hl:Zv l n' N' d') (h0:0≤d) (h0':0≤d') (hle:C.length = l.length):∀ k,k≤C.length→PB (Hk C l k) (k*(n*n')) (k*(n*(N+N'+1)+1)) (d+d')
 | 0,_=>PB.nil
 | k+1,hk=>by
  have h1:=(KO hC hl h0 h0' hle k (by omega)).add ((hC _ (KP (show k<C.length by omega))).mul (hl _ (KP (show k<l.length by omega))) h0 h0')
  exact h1.mono (by rw [Nat.succ_mul];exact Nat.le_refl _) (by rw [Nat.succ_mul];omega) (by omega)
abbrev WD (l : List (List Tm)) (i:Nat) (z:List Ow):List Ow:=.var 84 ([Yx l].map .d) :: .var 3 ([ex (.int .i64 (i:Nat))].map .d) :: z
abbrev A0Y (l : List (List Tm)) (i:Nat):List Ow:=WD l i []
theorem Pu (S q:List Tm) (l:List (List Tm)) (i:Nat) (n N n' N' n2 N2:Nat) (d d' d2:Int) (hS:PB S n2 N2 d2) (hq:PB q n N d) (hl:Zv l n' N' d') (hi:i<l.length) (hll:l.length≤1000) (h0:0≤d) (h0':0≤d') (hd:d+d'≤65535) (hn:n*n'≤100000) (hn2:n2+n*n'≤100000) (hN:N+N'+1≤10000000) (hN2:N2+n*(N+N'+1)+1≤4398046511103) :
  Con Tryz.prog 81 [.d (Bs S),.d (Bs q),.ptr 0 0,.ptr 1 0] (A0Y l i) [] (fun r hp'=>r = .d (CE [Bs (CX S (Fw q (pAt l i))),ex (.int .i64 0)])∧hp' = WD l (i+1) [.dead]):=by
 have hli:=hl _ (KP hi)
 refine Mq Tryz.func81 rfl (AI Tryz.func81 (by kernel_rfl) (by kernel_rfl)) rfl fun s0 pv0 pv1=>?_
 rw [Tryz.ntmps81]
 refine Y1<|Wa<|Wa<|Y0<|Y1<|Wm ?_;refine Wq AA ?_;refine Wq AA ?_;refine Wq AK ?_;refine Wq Bf ?_;refine Wq (Af (OR hq hli h0 h0' hd hn hN)) ?_;refine Wm ?_;refine Wq Ba ?_;refine Wq Ba ?_;refine Wa<|Wa<|Y0<|Y1 ?_;refine Wq AA ?_;refine Wq AQ ?_;refine Rc (ao rfl) (ao rfl) rfl (Aa rfl) (by first | exact He rfl | exact One.sl | exact Ke) rfl rfl ?_;refine Y0<|Y1<|Wm<|Wm ?_;refine Wq (Af (Jz hS (hq.mul hli h0 h0') hn2 (by omega))) ?_;refine Wm<|Wa<|Wa<|Y0 ?_;apply As
 refine FK (RetsA.d (BG (ResV.tmp rfl rfl) (ResV.tmp rfl rfl) (Bu (D.le.refl _) (D.le.refl _)))) rfl ?_ rfl
 exact ⟨rfl,rfl⟩
theorem UO (C l:List (List Tm)) (n N n' N':Nat) (d d':Int) (hC:Zv C n N d) (hl:Zv l n' N' d') (hle:C.length = l.length) (hll:C.length≤100) (h0:0≤d) (h0':0≤d') (hd:d+d'≤65535) (hn:n*n'≤900) (hN:n*(N+N'+1)≤100000000) (hN2:N+N'+1≤10000000) :
  Con Tryz.prog 80 [.d (Yx C),.fn 81 [0,1]] (A0Y l 0) [] (fun r hp'=>r = .d (CE [Bs (Hk C l C.length),ex (.int .i64 0)])∧hp' = WD l C.length [.dead]):=by
 refine Mq Tryz.func80 rfl (AI Tryz.func80 (by kernel_rfl) (by kernel_rfl)) rfl fun s0 pv0 pv1=>?_
 rw [Tryz.ntmps80]
 refine Y1<|Wa<|Wa<|Y0 ?_;apply NJ;refine Y1<|Wa<|Y0<|Y1<|Wa<|Y0<|Ac ?_;apply NK;refine Yn<|Ac<|Y1<|Wm ?_;refine Wq AR ?_;refine Wm<|Y0<|AWp.block ?_
 refine AJ (fun mz σ=>∃ k,k≤C.length∧mz = C.length - k∧σ = ⟨[(1,.fn 81 [0,1]),(6,.d (Bs (Hk C l k))),(7,.d (ex (.int .i64 0))),(10,.d (Yx C)),(11,.d (ex (.int .i64 (C.length:Nat)))),(12,.d (ex (.int .i64 (k:Nat))))],[.var 84 ([Yx l].map .d),.var 3 ([ex (.int .i64 (k:Nat))].map .d),.pin [(pv0,.own 0),(pv1,.own 1)]]⟩) ?le ⟨0,by omega,rfl,rfl⟩ ?round
 case le=>exact Aj (by exact FrLe.cons rfl (OX rfl)<|FrLe.cons rfl (AVle.le Fo)<|Yd<|Yd<|Yd<|Yd<|FrLe.nil) (by exact Yv<|Yv<|HpLe.cons (Cb rfl)<|HpLe.nil)
 case round =>
  rintro mz _ ⟨k,hk,rfl,rfl⟩
  by_cases hlt:k<C.length
  ·have hb := KO hC hl h0 h0' hle k (by omega)
   have hkn:k*(n*n')≤100*900:=Nat.mul_le_mul (by omega) hn
   have hkN:k*(n*(N+N'+1)+1)≤100*100000001:=Nat.mul_le_mul (by omega) (by omega)
   apply Y1;refine Wq Ak ?_;refine Y0<|Ac ?_;refine Ct ?_;refine Ys<|Ac<|AWp.block<|Y1 ?_;refine Wq AK ?_;refine Wq Bf ?_;refine Wa<|Y0<|Y1<|Wm<|Wm<|Wm ?_
   refine Fi [0,1] [0,1] (Pu (Hk C l k) (pAt C k) l k n N n' N' (k*(n*n')) (k*(n*(N+N'+1)+1)) d d' (d+d') hb (hC _ (KP hlt)) hl (by omega) (by omega) h0 h0' hd (by omega) (by omega) hN2 (by omega)) (by first | exact Or.inl rfl | exact Or.inr ⟨by decide,rfl,by repeat (first | exact AvoidR.nil | refine Gj rfl ?_ | refine AvoidR.dead ?_ | refine Hh ?_ | refine AvoidR.obj ?_ | refine Gg ?_ | refine Gi rfl ?_ | refine AvoidR.pin rfl ?_)⟩) rfl rfl (by first | exact .inl ⟨rfl,rfl⟩ | exact .inr ⟨rfl,rfl⟩) (by repeat (first | exact ArgsC.nil | refine ArgsC.d rfl (D.le.refl _) ?_ | refine Es rfl rfl ?_)) (by decide) (by repeat (first | exact SelR.nil | refine SelR.var rfl ?_ | refine SelR.obj rfl ?_ | refine Jo rfl ?_ | refine Il rfl rfl rfl ?_)) (by repeat (first | exact trivial | refine ⟨⟨_,_,rfl⟩,?_⟩)) rfl ?_
   rintro _ _ ⟨rfl,rfl⟩
   refine ⟨_,_,_,(by first | exact AVRen.d | exact AVRen.own rfl | exact AVRen.ptr rfl | exact Et rfl),(by repeat (first | exact SetR.nil | (apply SetR.cons;(first | exact OwRen.dead | exact BP | exact OwRen.obj | exact Ca | exact BQ rfl);exact rfl))),(by repeat (first | exact AppR.nil | (apply AppR.cons;(first | exact OwRen.dead | exact BP | exact OwRen.obj | exact Ca | exact BQ rfl);exact rfl))),?_⟩
   refine Wm ?_;refine Wq Ba ?_;refine Wq Ba ?_;refine Wa<|Wa<|Y0<|Y1<|Wm ?_;refine Wq Ai ?_;apply Y0;refine Cf ?_;apply Bi;apply Ah;refine Yn<|AWp.region ?_;refine Wq AQ ?_;refine Wm ?_;apply AWl.nil
   refine ALoop.next (C.length - (k+1)) (by omega) ⟨k+1,by omega,rfl,rfl⟩ ?_
   exact Aj (by exact FrLe.cons rfl (OX rfl)<|Yd<|Yd<|Yd<|Yd<|Yd<|FrLe.nil) (by exact HpLe.cons (NF rfl)<|HpLe.cons (NF rfl)<|HpLe.cons (Cb rfl)<|HpLe.nil)
  ·obtain rfl : k = C.length := by omega
   apply Y1;refine Wq Ai ?_;refine Y0<|Ac ?_;refine Cf ?_;apply AL;apply Aw;apply AD;apply Az;refine Yn<|Y1<|Wm<|Wm<|Wa<|Wa<|Y0 ?_;apply As;apply ANo.ret
   refine FK (RetsA.d (BG (ResV.tmp rfl rfl) (ResV.tmp rfl rfl) (Bu (D.le.refl _) (D.le.refl _)))) rfl ?_ rfl
   exact ⟨rfl,rfl⟩
theorem Ki (p : List Tm) (S:List Sq) (C l:List (List Tm)) (n N n' N' n2 N2 K np Np:Nat) (d d' d2 dp:Int) (hp:PB p np Np dp) (hS:ZU S n2 N2 K d2) (hSn:S.length≤100) (hpos:∀ k,k<S.length→0≤(HZ S k).a.num.sign) (hC:Zv C n N d) (hl:Zv l n' N' d') (hle:C.length = l.length) (hll:C.length≤100) (h0:0≤d) (h0':0≤d') (hd:d+d'≤65535) (hn:n*n'≤100) (hN:n*(N+N'+1)≤1000000) (hN2:N+N'+1≤1000000)
  (h02:0≤d2) (hd2:d2+d2≤65535) (hn2:n2≤10) (hN22:N2≤10000) (hK:K≤10000) (hnp:np≤100000) (hNp:Np≤1000000) :
  Abs Tryz.prog 40 [Bs p,FM S,Yx C,Yx l] (ex (.bool (decide (Eu p (CX (Gw S) (Hk C l C.length)) = 0)))):=by
 have hs:=JJ hS h02 S.length (Nat.le_refl _)
 rw [List.take_length] at hs
 have hpr:=KO hC hl h0 h0' hle C.length (Nat.le_refl _)
 have e1:n2*n2≤10*10:=Nat.mul_le_mul hn2 hn2
 have e2:S.length*(n2*n2)≤100*100:=Nat.mul_le_mul hSn (by omega)
 have e3:n2*(N2+N2+1)≤10*20001:=Nat.mul_le_mul hn2 (by omega)
 have e4:S.length*(K+n2*(N2+N2+1)+1)≤100*300000:=Nat.mul_le_mul hSn (by omega)
 have e5:C.length*(n*n')≤100*100:=Nat.mul_le_mul hll hn
 have e6:C.length*(n*(N+N'+1)+1)≤100*1000001:=Nat.mul_le_mul hll (by omega)
 have hsum:=hs.add hpr
 have hsl:=hsum.len
 have hpl:=hp.len
 have csame:=VK p (CX (Gw S) (Hk C l C.length)) (hp.sz.mono (by omega)) (hsum.sz.mono (by omega)) (by omega) (by omega)
 refine Ab Tryz.func40 fun s0=>?_
 rw [Tryz.ntmps40]
 apply Y1;refine ZD (ao rfl) One.sl rfl rfl rfl rfl ?_;refine Wa<|Y0<|Ac<|Y1<|Wm ?_;refine Wq (Af (JL S (by omega) hpos)) ?_;refine Wq Bj ?_;refine Wm ?_;refine Wg Ae ?_;refine Wg AR ?_;refine Wg AA ?_;refine Wg AR ?_;refine Wg Ai ?_;refine Wq AG ?_;apply Y0;refine Cf ?_;refine Ys<|Y1<|Wm ?_;refine Wq (Af (Ls S n2 N2 K d2 hS h02 hSn hd2 (by omega) (by omega) (by omega))) ?_;refine Wm ?_;refine Wq Ba ?_;refine Wq Ba ?_;refine Wa<|Wa<|Y0<|Ac<|Y1<|Wm ?_;refine Wq Ai ?_;apply Y0;refine Cf ?_;refine Ys<|Y1 ?_;refine Al ?_;refine Rc (ao rfl) (ao rfl) rfl (Aa rfl) (by first | exact He rfl | exact One.sl | exact Ke) rfl rfl ?_;refine Y0<|Y1<|Wm ?_;refine Wq (Zr [0,1] rfl) ?_
 refine Fi [0,1] [] (UO C l n N n' N' d d' hC hl hle hll h0 h0' hd (by omega) (by omega) (by omega)) (by first | exact Or.inl rfl | exact Or.inr ⟨by decide,rfl,by repeat (first | exact AvoidR.nil | refine Gj rfl ?_ | refine AvoidR.dead ?_ | refine Hh ?_ | refine AvoidR.obj ?_ | refine Gg ?_ | refine Gi rfl ?_ | refine AvoidR.pin rfl ?_)⟩) rfl rfl (by first | exact .inl ⟨rfl,rfl⟩ | exact .inr ⟨rfl,rfl⟩) (by repeat (first | exact ArgsC.nil | refine ArgsC.d rfl (D.le.refl _) ?_ | refine Es rfl rfl ?_)) (by decide) (by repeat (first | exact SelR.nil | refine SelR.var rfl ?_ | refine SelR.obj rfl ?_ | refine Jo rfl ?_ | refine Il rfl rfl rfl ?_)) (by repeat (first | exact trivial | refine ⟨⟨_,_,rfl⟩,?_⟩)) rfl ?_
 rintro _ _ ⟨rfl,rfl⟩
 refine ⟨_,_,_,(by first | exact AVRen.d | exact AVRen.own rfl | exact AVRen.ptr rfl | exact Et rfl),(by repeat (first | exact SetR.nil | (apply SetR.cons;(first | exact OwRen.dead | exact BP | exact OwRen.obj | exact Ca | exact BQ rfl);exact rfl))),(by repeat (first | exact AppR.nil | (apply AppR.cons;(first | exact OwRen.dead | exact BP | exact OwRen.obj | exact Ca | exact BQ rfl);exact rfl))),?_⟩
 refine Wm ?_;refine Wq Ba ?_;refine Wq Ba ?_;refine Wa<|Wa<|Y0<|Y1<|Wm ?_;refine Wq Ak ?_;refine Wm ?_;refine Wg Ae ?_;refine Wg Ae ?_;refine Wg Ae ?_;refine Wg (Af (Jz hs hpr (by omega) (by omega))) ?_;refine Wg (Af (csame)) ?_;refine Wq AO ?_;refine Wa<|Y0 ?_;apply As
 exact Yf
def GL {α : Type} (r:Nat→α) (k:Nat) (u:α):Nat→α:=fun j=>if j = k then u else r j
def Gy (f : Nat→Rat) (c:Nat):D:=slD 54 4 ((List.range c).map fun j=>BH (f j))
def Ck (r c:Nat) (M:Nat→Nat→Rat):D:=slD 63 1 ((List.range r).map fun i=>[Gy (M i) c])
theorem RA {r k:Nat} (h:k<r):(List.range r).getD k default = k:=by
 rw [List.getD_eq_getElem?_getD,List.getElem?_range h];rfl
section
variable {P : Program} {hp:List Ow} {arg:Operand→AV} {dd:Option Tmp} {ty:TypeId} {ps:String} {af:Array Edge} {gd:Option (Nat × Bool)}
theorem AC {x y:Operand} {t:TypeId} {e n b n' b' T sz r k:Nat} {d:TypeDesc} {z z':Value} {f:Nat→List D} {κ:IntKind} (hx:EH hp (arg x) = some (slD T sz ((List.range r).map f))) (hy:arg y = .d (ex (.int κ ((k:Nat):Int)))) (ht:Tab P t (.slice e) n b z) (he:Tab P e d n' b' z') (hsz:n' = sz) (hk:k<r):Quiet P hp ⟨dd,.indexAddr t x y,ty,ps,af,gd⟩ arg (.d (GV T (f k))):=by
 have:=DN (dd:=dd) (ty:=ty) (ps:=ps) (af:=af) (gd:=gd) hx hy ht he hsz (by simpa using hk)
 rwa [RA hk] at this
theorem Bl {x : Operand} {t:TypeId} {e n b T sz r:Nat} {z:Value} {f:Nat→List D} (hx:EH hp (arg x) = some (slD T sz ((List.range r).map f))) (ht:Tab P t (.slice e) n b z):Quiet P hp ⟨dd,.call { callee:=.builtin .len,args:=#[x],argTypes:=#[t] },ty,ps,af,gd⟩ arg (.d (ex (.int .i64 (r:Nat)))):=by
 have:=Hd (dd:=dd) (ty:=ty) (ps:=ps) (af:=af) (gd:=gd) hx ht
 rwa [List.length_range] at this
end
def BE (f : Nat→Rat) (n:Nat):List D:=((List.range n).map fun j=>BH (f j)).flatten
theorem LK (f : Nat→Rat) (n:Nat):BE f (n+1) = BE f n ++ BH (f n):=by
 simp [BE,List.range_succ]
theorem CA (f : Nat→Rat):∀ n,(BE f n).length = n*4
 | 0=>rfl
 | n+1=>by rw [LK,List.length_append,CA f n,DD,Nat.succ_mul]
theorem HK (f : Nat→Rat):∀ {n j q:Nat},j<n→q<4→(BE f n)[j*4+q]? = (BH (f j))[q]?
 | n+1,j,q,hj,hq=>by
  rw [LK]
  by_cases h:j<n
  ·rw [List.getElem?_append_left (by rw [CA]; omega)]
   exact HK f h hq
  ·obtain rfl : j = n := by omega
   rw [List.getElem?_append_right (by rw [CA];omega),CA]
   congr 1
   omega
theorem BY {f : Nat→Rat} {n j:Nat} (hj:j<n):PartAt (BE f n) (j*4) 4 (BH (f j)):=by
 refine ⟨by rw [CA];omega,?_⟩
 apply List.ext_getElem?
 intro q
 rw [List.getElem?_take]
 split
 ·rename_i hq
  rw [List.getElem?_drop]
  exact HK f hj hq
 ·rename_i hq
  rw [List.getElem?_eq_none (by rw [DD];omega)]
theorem IJ {f : Nat→Rat} {n j:Nat} {v:Rat} (hj:j<n):SetAt (BE f n) (j*4) (BH v) (BE (GL f j v) n):=by
 have hl:∀ v:Rat,(BH v).length = 4:=DD
 have hle:j*4+(BH v).length≤(BE f n).length:=by rw [CA,hl];omega
 refine ⟨hle,?_⟩
 apply List.ext_getElem?
 intro i
 by_cases hi:i<n*4
 ·have e1 : i = i / 4 * 4 + i % 4 := by omega
  have hlt:i / 4<n:=by omega
  have hm:i % 4<4:=by omega
  have e2:(BE (GL f j v) n)[i]? = (BH (GL f j v (i / 4)))[i % 4]? := by
   have:=HK (GL f j v) hlt hm
   rwa [← e1] at this
  have e3:(BE f n)[i]? = (BH (f (i / 4)))[i % 4]? := by
   have:=HK f hlt hm
   rwa [← e1] at this
  rw [e2]
  unfold NQ
  have ht:((BE f n).take (j*4)).length = j*4:=by rw [List.length_take,CA];omega
  by_cases h1:i<j*4
  ·rw [List.getElem?_append_left (by omega),List.getElem?_take,if_pos h1,e3,GL,if_neg (by omega)]
  ·rw [List.getElem?_append_right (by omega), ht]
   by_cases h2:i<j*4+4
   ·rw [List.getElem?_append_left (by rw [hl]; omega), GL, if_pos (by omega)]
    congr 1
    omega
   ·rw [List.getElem?_append_right (by rw [hl]; omega), List.getElem?_drop, hl, GL, if_neg (by omega), ← e3]
    congr 1
    omega
 ·rw [List.getElem?_eq_none (by rw [DB hle,CA];omega),List.getElem?_eq_none (by rw [CA];omega)]
theorem FY {f g:Nat→Rat} {n:Nat} (h:∀ j,j<n→f j = g j):BE f n = BE g n:=by
 unfold BE
 rw [List.map_congr_left fun j hj=>by rw [h j (List.mem_range.1 hj)]]
def DO (b0 n m:Nat) (b c:Nat→Nat) (M:Nat→Nat→Rat):List HE :=
 ⟨b0,63,(List.range n).map fun i=>if i<m then sX (b i) n (c i) else ex (.slice none 0 0)⟩ :: (List.range m).map fun i=>⟨b i,54,BE (M i) n⟩
theorem Di {b0 n m i:Nat} {b c:Nat→Nat} {M:Nat→Nat→Rat} (h:i<m):(DO b0 n m b c M)[i+1]? = some ⟨b i,54,BE (M i) n⟩:=by
 simp [DO,h]
theorem CY {b0 n m:Nat} {b c:Nat→Nat} {M:Nat→Nat→Rat}:(DO b0 n m b c M)[0]? = some ⟨b0,63,(List.range n).map fun i=>if i<m then sX (b i) n (c i) else ex (.slice none 0 0)⟩:=rfl
theorem CV {n m i:Nat} {b c:Nat→Nat} (h:i<m) (hm:m≤n):CellAt ((List.range n).map fun i=>if i<m then sX (b i) n (c i) else ex (.slice none 0 0)) (i*1) (sX (b i) n (c i)):=by
 rw [Nat.mul_one]
 refine ⟨by simp;omega,?_⟩
 have:i<n:=by omega
 simp [Cs,this,h]
theorem RQ {n m g cg:Nat} {b c:Nat→Nat} (h:m<n):SetAt ((List.range n).map fun i=>if i<m then sX (b i) n (c i) else ex (.slice none 0 0)) (m*1) [sX g n cg] ((List.range n).map fun i=>if i<m+1 then sX (GL b m g i) n (GL c m cg i) else ex (.slice none 0 0)):=by
 rw [Nat.mul_one]
 have hle:m+[sX g n cg].length≤((List.range n).map fun i=>if i<m then sX (b i) n (c i) else ex (.slice none 0 0)).length:=by simp;omega
 refine ⟨hle,?_⟩
 apply List.ext_getElem?
 intro i
 have hs:NQ ((List.range n).map fun i=>if i<m then sX (b i) n (c i) else ex (.slice none 0 0)) m [sX g n cg] = ((List.range n).map fun i=>if i<m then sX (b i) n (c i) else ex (.slice none 0 0)).set m (sX g n cg):=by
  unfold NQ
  rw [List.set_eq_take_append_cons_drop,if_pos (by simpa using h)]
  rfl
 rw [hs,List.getElem?_set]
 by_cases hi:i<n
 ·split
  ·rename_i e
   subst e
   simp [hi,GL]
  ·rename_i e
   simp only [List.getElem?_map,List.getElem?_range hi,Option.map_some,GL]
   have e':¬ i = m:=fun h=>e h.symm
   simp only [if_neg e']
   by_cases h1:i<m
   ·rw [if_pos h1,if_pos (by omega)]
   ·rw [if_neg h1,if_neg (by omega)]
 ·split
  ·omega
  ·rw [List.getElem?_eq_none (by simp;omega),List.getElem?_eq_none (by simp;omega)]
theorem RP {b0 n m g cg:Nat} {b c:Nat→Nat} {M:Nat→Nat→Rat}:(DO b0 n m b c M).set 0 ⟨b0,63,(List.range n).map fun i=>if i<m+1 then sX (GL b m g i) n (GL c m cg i) else ex (.slice none 0 0)⟩ ++ [⟨g,54,BE (M m) n⟩] = DO b0 n (m+1) (GL b m g) (GL c m cg) M:=by
 simp only [DO,List.set_cons_zero,List.cons_append,List.range_succ (n:=m),List.map_append,List.map_cons,List.map_nil]
 congr 2
 ·apply List.map_congr_left
  intro i hi
  have:=List.mem_range.1 hi
  rw [GL,if_neg (by omega)]
 ·rw [GL,if_pos rfl]
def Yu (M : Nat→Nat→Rat) (i j:Nat) (v:Rat):Nat→Nat→Rat:=GL M i (GL (M i) j v)
theorem UB {b0 n m i j:Nat} {b c:Nat→Nat} {M:Nat→Nat→Rat} {v:Rat} (h:i<m):(DO b0 n m b c M).set (i+1) ⟨b i,54,BE (GL (M i) j v) n⟩ = DO b0 n m b c (Yu M i j v):=by
 simp only [DO,List.set_cons_succ]
 congr 1
 apply List.ext_getElem?
 intro q
 rw [List.getElem?_set]
 by_cases hq:q<m
 ·split
  ·rename_i e
   subst e
   simp [hq,Yu,GL]
  ·rename_i e
   simp only [List.getElem?_map,List.getElem?_range hq,Option.map_some,Yu]
   rw [GL,if_neg (fun h=>e h.symm)]
 ·split
  ·omega
  ·rw [List.getElem?_eq_none (by simp;omega),List.getElem?_eq_none (by simp;omega)]
theorem Km {b0 n m:Nat} {b c:Nat→Nat} {M M':Nat→Nat→Rat} (h:∀ i,i<m→∀ j,j<n→M i j = M' i j):DO b0 n m b c M = DO b0 n m b c M':=by
 unfold DO
 congr 1
 apply List.map_congr_left
 intro i hi
 rw [FY (h i (List.mem_range.1 hi))]
theorem GQ (r c:Nat) (M:Nat→Nat→Rat) (N:Nat) (hM:∀ i j,RSz (M i j) N) (hN:N≤1000000000) (hr:r≤1000) (hc:c≤1000):Abs Tryz.prog 51 [Ck r c M] (ex (.bool true)):=by
 refine Ab Tryz.func51 fun s0=>?_
 rw [Tryz.ntmps51]
 refine Y1<|Wa<|Y0<|Ac<|Y1<|Wm ?_;refine Wq (Bl rfl (Aa rfl)) ?_;refine Wm<|Y0<|AWp.block ?_
 refine AJ (fun mz σ=>∃ k,k≤r∧mz = r - k∧σ = ⟨[(0,.d (Ck r c M)),(7,.d (Ck r c M)),(8,.d (ex (.int .i64 (r:Nat)))),(9,.d (ex (.int .i64 (k:Nat))))],[]⟩) ?le ⟨0,by omega,rfl,rfl⟩ ?round
 case le=>exact Aj (by exact Yd<|Yd<|Yd<|Yd<|FrLe.nil) (by exact HpLe.nil)
 case round =>
  rintro mz _ ⟨k,hk,rfl,rfl⟩
  by_cases hlt:k<r
  ·refine Ac<|AWp.region ?_; refine Wq Ak ?_; apply AWl.nil; refine Yn<|Ac ?_; refine Ct ?_; apply Bi; refine Yn<|Ac<|AWp.block<|Ac<|AWp.region ?_; refine Wq (AC (k := k) rfl (ao rfl) (Aa rfl) (Aa rfl) rfl (by omega)) ?_; refine Wq Bf ?_; refine Wa ?_; apply AWl.nil; refine Yn<|Ac<|Ac<|AWp.region<|Wm ?_; refine Wq (Bl rfl (Aa rfl)) ?_; refine Wm ?_; refine Wq (AC (k := 0) rfl (ao rfl) (Aa rfl) (Aa rfl) rfl (by omega)) ?_; refine Wq Bf ?_; refine Wq (Bl rfl (Aa rfl)) ?_; refine Wq Ai ?_; apply AWl.nil; apply Yn; refine Cf ?_; apply Bi; refine Yn<|Ac<|AWp.region<|Wm ?_; refine Wq (Bl rfl (Aa rfl)) ?_; refine Wm ?_; apply AWl.nil; refine Yn<|AWp.block ?_
   refine AJ (fun mz σ=>∃ i,i≤c∧mz = c - i∧σ = ⟨[(0,.d (Ck r c M)),(7,.d (Ck r c M)),(8,.d (ex (.int .i64 (r:Nat)))),(9,.d (ex (.int .i64 (k:Nat)))),(20,.d (Gy (M k) c)),(21,.d (ex (.int .i64 (c:Nat)))),(22,.d (ex (.int .i64 (i:Nat))))],[]⟩) ?lei ⟨0,by omega,rfl,rfl⟩ ?roundi
   case lei=>exact Aj (by exact Yd<|Yd<|Yd<|Yd<|Yd<|Yd<|Yd<|FrLe.nil) (by exact HpLe.nil)
   case roundi =>
    rintro mz _ ⟨i,hi,rfl,rfl⟩
    by_cases hlti:i<c
    ·refine Ac<|AWp.region ?_; refine Wq Ak ?_; apply AWl.nil; refine Yn<|Ac ?_; refine Ct ?_; apply Bi; refine Yn<|Ac<|AWp.block<|Ac<|AWp.region ?_; refine Wq (AC (k := i) rfl (ao rfl) (Aa rfl) (Aa rfl) rfl (by omega)) ?_; refine Wq At ?_; refine Al ?_; refine Sf ?_; apply AWl.nil; refine Yn<|Ac<|AWp.region ?_; refine Wq Ao ?_; refine Wq (Af (Ps (M k i) N (hM k i) hN)) ?_; refine Wq Bj ?_; apply AWl.nil; apply Yn; refine Cf ?_; apply Bi; apply Ah; refine Yn<|AWp.region ?_; refine Wq AQ ?_; refine Wm ?_; apply AWl.nil
     refine ALoop.next (c - (i+1)) (by omega) ⟨i+1,by omega,rfl,rfl⟩ ?_
     exact Aj (by exact Yd<|Yd<|Yd<|Yd<|Yd<|Yd<|Yd<|FrLe.nil) (by exact HpLe.nil)
    ·obtain rfl : i = c := by omega
     apply Y1;refine Wq Ai ?_;refine Y0<|Ac ?_;refine Cf ?_;apply AL;apply Aw;apply AD;apply Az;apply Ah;refine Yn<|AWp.region ?_;refine Wq AQ ?_;refine Wm ?_;apply AWl.nil
     refine ALoop.next (r - (k+1)) (by omega) ⟨k+1,by omega,rfl,rfl⟩ ?_
     exact Aj (by exact Yd<|Yd<|Yd<|Yd<|FrLe.nil) (by exact HpLe.nil)
  ·obtain rfl : k = r := by omega
   apply Y1;refine Wq Ai ?_;refine Y0<|Ac ?_;refine Cf ?_;apply AL;apply Aw;apply AD;apply Az;refine Yn<|Y1<|Wa<|Y0 ?_;apply As
   exact Yf
theorem Wf (n : Nat) (M:Nat→Nat→Rat) (N:Nat) (hM:∀ i j,RSz (M i j) N) (hN:N≤1000000000) (hn:n≤1000) (h:∀ i,i<n→∀ j,j<i→M i j = M j i):Abs Tryz.prog 52 [Ck n n M] (ex (.bool true)):=by
 refine Ab Tryz.func52 fun s0=>?_
 rw [Tryz.ntmps52]
 refine Y1<|Wa<|Y0<|Ac<|Y1<|Wm ?_;refine Wq (Bl rfl (Aa rfl)) ?_;refine Wm<|Y0<|AWp.block ?_
 refine AJ (fun mz σ=>∃ k,k≤n∧mz = n - k∧σ = ⟨[(0,.d (Ck n n M)),(6,.d (ex (.int .i64 (n:Nat)))),(7,.d (ex (.int .i64 (k:Nat))))],[]⟩) ?le ⟨0,by omega,rfl,rfl⟩ ?round
 case le=>exact Aj (by exact Yd<|Yd<|Yd<|FrLe.nil) (by exact HpLe.nil)
 case round =>
  rintro mz _ ⟨k,hk,rfl,rfl⟩
  by_cases hlt:k<n
  ·apply Y1;refine Wq Ak ?_;refine Y0<|Ac ?_;refine Ct ?_;refine Ys<|Ac<|AWp.block<|Y1<|Wm<|Wa<|Y0<|Y1<|Wm<|Wm<|Y0<|AWp.block ?_
   refine AJ (fun mz σ=>∃ i,i≤k∧mz = k - i∧σ = ⟨[(0,.d (Ck n n M)),(6,.d (ex (.int .i64 (n:Nat)))),(7,.d (ex (.int .i64 (k:Nat)))),(3,.d (ex (.int .i64 (k:Nat)))),(10,.d (ex (.int .i64 (k:Nat)))),(11,.d (ex (.int .i64 (i:Nat))))],[]⟩) ?lei ⟨0,by omega,rfl,rfl⟩ ?roundi
   case lei=>exact Aj (by exact Yd<|Yd<|Yd<|Yd<|Yd<|Yd<|FrLe.nil) (by exact HpLe.nil)
   case roundi =>
    rintro mz _ ⟨i,hi,rfl,rfl⟩
    by_cases hlti:i<k
    ·have hq:Hn (M k i) (M i k) = 0:=GA.2 (h k hlt i hlti)
     have cc:=Gz (M k i) (M i k) ((hM k i).mono hN) ((hM i k).mono hN)
     rw [hq] at cc
     apply Y1;refine Wq Ak ?_;refine Y0<|Ac ?_;refine Ct ?_;refine Ys<|Ac<|AWp.block<|Y1<|Wm<|Wa<|Y0<|Ac ?_
     refine Dr [[],[],[(14,0),(15,1)],[(16,2)],[],[(17,3),(18,4)],[(19,5)],[],[],[(21,7),(22,8)],[(23,9)],[],[(24,10),(25,11)],[(26,12)],[(20,6),(27,13)],[(28,14)]] [[],[],[0,1],[0,1,2],[],[0,1,2,3,4],[0,1,2,3,4,5],[],[],[7,8],[7,8,9],[],[7,8,9,10,11],[7,8,9,10,11,12],[0,1,2,3,4,5,6,7,8,9,10,11,12,13],[0,1,2,3,4,5,6,7,8,9,10,11,12,13,14]] ?_
     refine Xq Ae ?_;refine Xq Ae ?_;refine Xq (AC (k:=k) rfl (ah rfl) (Aa rfl) (Aa rfl) rfl (by omega)) ?_;refine Xq Bf ?_;refine Xq Ae ?_;refine Xq (AC (k:=i) rfl (ah rfl) (Aa rfl) (Aa rfl) rfl (by omega)) ?_;refine Xq At ?_;refine Xq Ae ?_;refine Xq Ae ?_;refine Xq (AC (k:=i) rfl (ah rfl) (Aa rfl) (Aa rfl) rfl (by omega)) ?_;refine Xq Bf ?_;refine Xq Ae ?_;refine Xq (AC (k:=k) rfl (ah rfl) (Aa rfl) (Aa rfl) rfl (by omega)) ?_;refine Xq At ?_;refine Xq (Af (cc)) ?_;refine Xq Ai ?_;refine ⟨_,rfl,?_⟩
     apply Y0;refine Cf ?_;apply Bi;apply Ah;refine Yn<|AWp.region ?_;refine Wq AQ ?_;refine Wm ?_;apply AWl.nil
     refine ALoop.next (k - (i+1)) (by omega) ⟨i+1,by omega,rfl,rfl⟩ ?_
     exact Aj (by exact Yd<|Yd<|Yd<|Yd<|Yd<|Yd<|FrLe.nil) (by exact HpLe.nil)
    ·obtain rfl : i = k := by omega
     apply Y1;refine Wq Ai ?_;refine Y0<|Ac ?_;refine Cf ?_;apply AL;apply Aw;apply AD;apply Az;apply Ah;refine Yn<|AWp.region ?_;refine Wq AQ ?_;refine Wm ?_;apply AWl.nil
     refine ALoop.next (n - (i+1)) (by omega) ⟨i+1,by omega,rfl,rfl⟩ ?_
     exact Aj (by exact Yd<|Yd<|Yd<|FrLe.nil) (by exact HpLe.nil)
  ·obtain rfl : k = n := by omega
   apply Y1;refine Wq Ai ?_;refine Y0<|Ac ?_;refine Cf ?_;apply AL;apply Aw;apply AD;apply Az;refine Yn<|Y1<|Wa<|Y0 ?_;apply As
   exact Yf
theorem Wh (n : Nat) (M:Nat→Nat→Rat) (N:Nat) (hM:∀ i j,RSz (M i j) N) (hN:N≤1000000000) (hn:n≤1000) (z w:Nat) (hz:z<n) (hw:w<z) (h:∀ i,i<z→∀ j,j<i→M i j = M j i) (h':∀ j,j<w→M z j = M j z) (hbad:M z w ≠ M w z):Abs Tryz.prog 52 [Ck n n M] (ex (.bool false)):=by
 refine Ab Tryz.func52 fun s0=>?_
 rw [Tryz.ntmps52]
 refine Y1<|Wa<|Y0<|Ac<|Y1<|Wm ?_;refine Wq (Bl rfl (Aa rfl)) ?_;refine Wm<|Y0<|AWp.block ?_
 refine AJ (fun mz σ=>∃ k,k≤z∧mz = z - k∧σ = ⟨[(0,.d (Ck n n M)),(6,.d (ex (.int .i64 (n:Nat)))),(7,.d (ex (.int .i64 (k:Nat))))],[]⟩) ?le ⟨0,by omega,rfl,rfl⟩ ?round
 case le=>exact Aj (by exact Yd<|Yd<|Yd<|FrLe.nil) (by exact HpLe.nil)
 case round =>
  rintro mz _ ⟨k,hk,rfl,rfl⟩
  by_cases hlt:k<z
  ·apply Y1;refine Wq Ak ?_;refine Y0<|Ac ?_;refine Ct ?_;refine Ys<|Ac<|AWp.block<|Y1<|Wm<|Wa<|Y0<|Y1<|Wm<|Wm<|Y0<|AWp.block ?_
   refine AJ (fun mz σ=>∃ i,i≤k∧mz = k - i∧σ = ⟨[(0,.d (Ck n n M)),(6,.d (ex (.int .i64 (n:Nat)))),(7,.d (ex (.int .i64 (k:Nat)))),(3,.d (ex (.int .i64 (k:Nat)))),(10,.d (ex (.int .i64 (k:Nat)))),(11,.d (ex (.int .i64 (i:Nat))))],[]⟩) ?lei ⟨0,by omega,rfl,rfl⟩ ?roundi
   case lei=>exact Aj (by exact Yd<|Yd<|Yd<|Yd<|Yd<|Yd<|FrLe.nil) (by exact HpLe.nil)
   case roundi =>
    rintro mz _ ⟨i,hi,rfl,rfl⟩
    by_cases hlti:i<k
    ·have hq:Hn (M k i) (M i k) = 0:=GA.2 (h k hlt i hlti)
     have cc:=Gz (M k i) (M i k) ((hM k i).mono hN) ((hM i k).mono hN)
     rw [hq] at cc
     apply Y1;refine Wq Ak ?_;refine Y0<|Ac ?_;refine Ct ?_;refine Ys<|Ac<|AWp.block<|Y1<|Wm<|Wa<|Y0<|Ac ?_
     refine Dr [[],[],[(14,0),(15,1)],[(16,2)],[],[(17,3),(18,4)],[(19,5)],[],[],[(21,7),(22,8)],[(23,9)],[],[(24,10),(25,11)],[(26,12)],[(20,6),(27,13)],[(28,14)]] [[],[],[0,1],[0,1,2],[],[0,1,2,3,4],[0,1,2,3,4,5],[],[],[7,8],[7,8,9],[],[7,8,9,10,11],[7,8,9,10,11,12],[0,1,2,3,4,5,6,7,8,9,10,11,12,13],[0,1,2,3,4,5,6,7,8,9,10,11,12,13,14]] ?_
     refine Xq Ae ?_;refine Xq Ae ?_;refine Xq (AC (k:=k) rfl (ah rfl) (Aa rfl) (Aa rfl) rfl (by omega)) ?_;refine Xq Bf ?_;refine Xq Ae ?_;refine Xq (AC (k:=i) rfl (ah rfl) (Aa rfl) (Aa rfl) rfl (by omega)) ?_;refine Xq At ?_;refine Xq Ae ?_;refine Xq Ae ?_;refine Xq (AC (k:=i) rfl (ah rfl) (Aa rfl) (Aa rfl) rfl (by omega)) ?_;refine Xq Bf ?_;refine Xq Ae ?_;refine Xq (AC (k:=k) rfl (ah rfl) (Aa rfl) (Aa rfl) rfl (by omega)) ?_;refine Xq At ?_;refine Xq (Af (cc)) ?_;refine Xq Ai ?_;refine ⟨_,rfl,?_⟩
     apply Y0;refine Cf ?_;apply Bi;apply Ah;refine Yn<|AWp.region ?_;refine Wq AQ ?_;refine Wm ?_;apply AWl.nil
     refine ALoop.next (k - (i+1)) (by omega) ⟨i+1,by omega,rfl,rfl⟩ ?_
     exact Aj (by exact Yd<|Yd<|Yd<|Yd<|Yd<|Yd<|FrLe.nil) (by exact HpLe.nil)
    ·obtain rfl : i = k := by omega
     apply Y1;refine Wq Ai ?_;refine Y0<|Ac ?_;refine Cf ?_;apply AL;apply Aw;apply AD;apply Az;apply Ah;refine Yn<|AWp.region ?_;refine Wq AQ ?_;refine Wm ?_;apply AWl.nil
     refine ALoop.next (z - (i+1)) (by omega) ⟨i+1,by omega,rfl,rfl⟩ ?_
     exact Aj (by exact Yd<|Yd<|Yd<|FrLe.nil) (by exact HpLe.nil)
  ·obtain rfl : k = z := by omega
   apply Y1;refine Wq Ak ?_;refine Y0<|Ac ?_;refine Ct ?_;refine Ys<|Ac<|AWp.block<|Y1<|Wm<|Wa<|Y0<|Y1<|Wm<|Wm<|Y0<|AWp.block ?_
   refine AJ (fun mz σ=>∃ i,i≤w∧mz = w - i∧σ = ⟨[(0,.d (Ck n n M)),(6,.d (ex (.int .i64 (n:Nat)))),(7,.d (ex (.int .i64 (k:Nat)))),(3,.d (ex (.int .i64 (k:Nat)))),(10,.d (ex (.int .i64 (k:Nat)))),(11,.d (ex (.int .i64 (i:Nat))))],[]⟩) ?lei ⟨0,by omega,rfl,rfl⟩ ?roundi
   case lei=>exact Aj (by exact Yd<|Yd<|Yd<|Yd<|Yd<|Yd<|FrLe.nil) (by exact HpLe.nil)
   case roundi =>
    rintro mz _ ⟨i,hi,rfl,rfl⟩
    by_cases hlti:i<w
    ·have hq:Hn (M k i) (M i k) = 0:=GA.2 (h' i hlti)
     have cc:=Gz (M k i) (M i k) ((hM k i).mono hN) ((hM i k).mono hN)
     rw [hq] at cc
     apply Y1;refine Wq Ak ?_;refine Y0<|Ac ?_;refine Ct ?_;refine Ys<|Ac<|AWp.block<|Y1<|Wm<|Wa<|Y0<|Ac ?_
     refine Dr [[],[],[(14,0),(15,1)],[(16,2)],[],[(17,3),(18,4)],[(19,5)],[],[],[(21,7),(22,8)],[(23,9)],[],[(24,10),(25,11)],[(26,12)],[(20,6),(27,13)],[(28,14)]] [[],[],[0,1],[0,1,2],[],[0,1,2,3,4],[0,1,2,3,4,5],[],[],[7,8],[7,8,9],[],[7,8,9,10,11],[7,8,9,10,11,12],[0,1,2,3,4,5,6,7,8,9,10,11,12,13],[0,1,2,3,4,5,6,7,8,9,10,11,12,13,14]] ?_
     refine Xq Ae ?_;refine Xq Ae ?_;refine Xq (AC (k:=k) rfl (ah rfl) (Aa rfl) (Aa rfl) rfl (by omega)) ?_;refine Xq Bf ?_;refine Xq Ae ?_;refine Xq (AC (k:=i) rfl (ah rfl) (Aa rfl) (Aa rfl) rfl (by omega)) ?_;refine Xq At ?_;refine Xq Ae ?_;refine Xq Ae ?_;refine Xq (AC (k:=i) rfl (ah rfl) (Aa rfl) (Aa rfl) rfl (by omega)) ?_;refine Xq Bf ?_;refine Xq Ae ?_;refine Xq (AC (k:=k) rfl (ah rfl) (Aa rfl) (Aa rfl) rfl (by omega)) ?_;refine Xq At ?_;refine Xq (Af (cc)) ?_;refine Xq Ai ?_;refine ⟨_,rfl,?_⟩
     apply Y0;refine Cf ?_;apply Bi;apply Ah;refine Yn<|AWp.region ?_;refine Wq AQ ?_;refine Wm ?_;apply AWl.nil
     refine ALoop.next (w - (i+1)) (by omega) ⟨i+1,by omega,rfl,rfl⟩ ?_
     exact Aj (by exact Yd<|Yd<|Yd<|Yd<|Yd<|Yd<|FrLe.nil) (by exact HpLe.nil)
    ·obtain rfl : i = w := by omega
     have hq:Hn (M k i) (M i k) ≠ 0:=fun e=>hbad (GA.1 e)
     have cc:=Gz (M k i) (M i k) ((hM k i).mono hN) ((hM i k).mono hN)
     generalize Hn (M k i) (M i k) = u at hq cc
     apply Y1;refine Wq Ak ?_;refine Y0<|Ac ?_;refine Ct ?_;refine Ys<|Ac<|AWp.block<|Y1<|Wm<|Wa<|Y0<|Ac ?_
     refine Dr [[],[],[(14,0),(15,1)],[(16,2)],[],[(17,3),(18,4)],[(19,5)],[],[],[(21,7),(22,8)],[(23,9)],[],[(24,10),(25,11)],[(26,12)],[(20,6),(27,13)],[(28,14)]] [[],[],[0,1],[0,1,2],[],[0,1,2,3,4],[0,1,2,3,4,5],[],[],[7,8],[7,8,9],[],[7,8,9,10,11],[7,8,9,10,11,12],[0,1,2,3,4,5,6,7,8,9,10,11,12,13],[0,1,2,3,4,5,6,7,8,9,10,11,12,13,14]] ?_
     refine Xq Ae ?_;refine Xq Ae ?_;refine Xq (AC (k:=k) rfl (ah rfl) (Aa rfl) (Aa rfl) rfl (by omega)) ?_;refine Xq Bf ?_;refine Xq Ae ?_;refine Xq (AC (k:=i) rfl (ah rfl) (Aa rfl) (Aa rfl) rfl (by omega)) ?_;refine Xq At ?_;refine Xq Ae ?_;refine Xq Ae ?_;refine Xq (AC (k:=i) rfl (ah rfl) (Aa rfl) (Aa rfl) rfl (by omega)) ?_;refine Xq Bf ?_;refine Xq Ae ?_;refine Xq (AC (k:=k) rfl (ah rfl) (Aa rfl) (Aa rfl) rfl (by omega)) ?_;refine Xq At ?_;refine Xq (Af (cc)) ?_;refine Xq Ak ?_;refine ⟨_,rfl,?_⟩
     apply Y0;refine Ct ?_;refine Y1<|Wa<|Y0 ?_;apply As;apply Bk;apply AM;apply CR;apply Bk;apply Bk;apply AM;apply CR;apply Bk;apply AM
     exact Yf
def Hp (ms : List (Nat→Int)):D:=slD 70 8 (ms.map Cv)
def KD (ms : List (Nat→Int)) (row:Nat→Rat) (d:Rat):Nat→List Tm
 | 0=>[]
 | j+1=>if row j = 0 then KD ms row d j else CX (KD ms row d j) [⟨row j / d,ms.getD j default⟩]
theorem IB {a b:Rat} (ha:a ≠ 0) (hb:b ≠ 0):a / b ≠ 0:=fun e=>ha (by
 have:a / b*b = a:=by rw [Rat.div_def,Rat.mul_assoc,Rat.inv_mul_cancel _ hb,Rat.mul_one]
 rw [e,Rat.zero_mul] at this
 exact this.symm)
theorem Ex {a : Rat} (h:a ≠ 0):a.num ≠ 0:=fun e=>h (Rat.num_eq_zero.1 e)
theorem RSz.divQ {p q:Rat} {N M:Nat} (hp:RSz p N) (hq:RSz q M) (h:q ≠ 0):RSz (p / q) (N+M):=by
 rw [Rat.div_def];exact hp.mul (hq.inv (Ex h))
theorem RSz.subQ {p q:Rat} {N M:Nat} (hp:RSz p N) (hq:RSz q M):RSz (p - q) (N+M+1):=by
 rw [Rat.sub_eq_add_neg];exact hp.add hq.neg
theorem Rl {ms : List (Nat→Int)} {row:Nat→Rat} {d:Rat} {S:Nat} {e:Int} (hm:∀ m∈ms,In8 m 0 e) (hr:∀ j,RSz (row j) S) (hd:RSz d S) (h0:d ≠ 0):∀ j,j≤ms.length→PB (KD ms row d j) j (j*(S+S+1)) e
 | 0,_=>PB.nil
 | j+1,hj=>by
  have ih:=Rl hm hr hd h0 j (by omega)
  rw [KD]
  split
  ·exact ih.mono (by omega) (Nat.mul_le_mul_right _ (by omega)) (Int.le_refl _)
  ·rename_i hz
   have hmj:ms.getD j default∈ms:=by
    rw [List.getD_eq_getElem?_getD,List.getElem?_eq_getElem (by omega)]
    exact List.getElem_mem _
   have h1:PB [⟨row j / d,ms.getD j default⟩] 1 (S+S) e:=Kd (IB hz h0) ((hr j).divQ hd h0) (hm _ hmj)
   exact (ih.add h1).mono (Nat.le_refl _) (by rw [Nat.succ_mul];omega) (by omega)
theorem Rk (ms : List (Nat→Int)) (row:Nat→Rat) (d:Rat) (n S:Nat) (e:Int) (hn:ms.length = n) (hn1:n≤100) (hm:∀ m∈ms,In8 m 0 e) (he:e≤65535) (hr:∀ j,RSz (row j) S) (hd:RSz d S) (h0:d ≠ 0) (hS:S≤10000000) (L:List HE) (i b c:Nat) (hi:L[i]? = some ⟨b,54,BE row n⟩) :
  Con Tryz.prog 53 [.d (Hp ms),.d (sX b n c),.d (BI (BH d))] [.obj (BA L)] [] (fun r hp'=>r = .d (BI (Yw ⟨d,KD ms row d n⟩))∧∃ (T1 T2:TypeId) (c1 c2:List D),hp' = [.obj (BA L),.dead,.var T1 (c1.map .d),.var T2 (c2.map .d)]):=by
 refine Mr Tryz.func53 rfl (AI Tryz.func53 (by kernel_rfl) (by kernel_rfl)) rfl fun s0 pv0=>?_
 rw [Tryz.ntmps53]
 apply Y1;refine Bx ?_;refine Al ?_;refine Y0<|Y1<|Wa<|Y0<|Ac<|Y1<|Wm ?_;refine Wq (Ju (ao rfl) (Aa rfl)) ?_;refine Wm<|Y0<|AWp.block ?_
 refine AJ (fun mz σ=>∃ k,k≤n∧mz = n - k∧σ = ⟨[(0,.d (Hp ms)),(5,.ptr 2 0),(6,.ptr 3 0),(7,.d (Bs (KD ms row d k))),(12,.d (sX b n c)),(13,.d (ex (.int .i64 (n:Nat)))),(14,.d (ex (.int .i64 (k:Nat))))],[.obj (BA L),.pin [(pv0,.own 0)],.var 54 ((BH d).map .d),.var 56 (([ex (.bool false),ex (.slice none 0 0),ex (.bool false),ex (.slice none 0 0),ex (.slice none 0 0)]:List D).map .d)]⟩) ?le ⟨0,by omega,rfl,rfl⟩ ?round
 case le=>exact Aj (by exact Yd<|Yp<|Yp<|FrLe.cons rfl (AVle.le Fo)<|Yd<|Yd<|Yd<|FrLe.nil) (by exact HpLe.cons (OwLe.obj rfl)<|HpLe.cons (Cb rfl)<|Yv<|Yv<|HpLe.nil)
 case round =>
  rintro mz _ ⟨k,hk,rfl,rfl⟩
  by_cases hlt:k<n
  ·have hb := Rl (ms := ms) hm hr hd h0 k (by omega)
   have hkS:k*(S+S+1)≤100*20000001:=Nat.mul_le_mul (by omega) (by omega)
   by_cases hz:row k = 0
   ·have hs : (row k).num.sign = 0 := by rw [hz]; rfl
    have e1:KD ms row d (k+1) = KD ms row d k:=by rw [KD,if_pos hz]
    apply Y1;refine Wq Ak ?_;refine Y0<|Ac ?_;refine Ct ?_;refine Ys<|Ac<|AWp.block<|Y1<|Wm ?_;refine Wq (Ch (k:=k) (ao rfl) (ao rfl) (Aa rfl) (Aa rfl) hlt) ?_;refine Wq (Er (e:=⟨b,54,BE row n⟩) 0 i (ao rfl) rfl hi (Aa rfl) rfl (BY hlt)) ?_;refine Al ?_;refine Wa ?_;refine Sf ?_;refine Y0<|Ac<|Y1 ?_;refine Wq Ao ?_;refine Wq (Af (BX (row k))) ?_;refine Wq Ak ?_;apply Y0;refine Ct ?_;apply AL;apply Aw;apply Az;refine Yn<|AWp.region ?_;refine Wq AQ ?_;refine Wm ?_;apply AWl.nil
    refine ALoop.next (n - (k+1)) (by omega) ⟨k+1,by omega,rfl,rfl⟩ ?_
    exact Aj (by exact Yd<|Yp<|Yp<|FrLe.cons rfl (AVle.le (CH e1.symm))<|Yd<|Yd<|Yd<|FrLe.nil) (by exact HpLe.cons (OwLe.obj rfl)<|HpLe.cons (Cb rfl)<|Yv<|Yv<|HpLe.nil)
   ·have hs:(row k).num.sign ≠ 0:=fun e=>hz (Dg.1 e)
    have e1:KD ms row d (k+1) = CX (KD ms row d k) [⟨row k / d,ms.getD k default⟩]:=by rw [KD,if_neg hz]
    have hmj:ms.getD k default∈ms:=by
     rw [List.getD_eq_getElem?_getD,List.getElem?_eq_getElem (by omega)]
     exact List.getElem_mem _
    have h1:PB [⟨row k / d,ms.getD k default⟩] 1 (S+S) e:=Kd (IB hz h0) ((hr k).divQ hd h0) (hm _ hmj)
    have hkl:k<ms.length:=by omega
    apply Y1;refine Wq Ak ?_;refine Y0<|Ac ?_;refine Ct ?_;refine Ys<|Ac<|AWp.block<|Y1<|Wm ?_;refine Wq (Ch (k:=k) (ao rfl) (ao rfl) (Aa rfl) (Aa rfl) hlt) ?_;refine Wq (Er (e:=⟨b,54,BE row n⟩) 0 i (ao rfl) rfl hi (Aa rfl) rfl (BY hlt)) ?_;refine Al ?_;refine Wa ?_;refine Sf ?_;refine Y0<|Ac<|Y1 ?_;refine Wq Ao ?_;refine Wq (Af (BX (row k))) ?_;refine Wq Ai ?_;apply Y0;refine Cf ?_;refine Ys<|Y1 ?_;refine Wq Ao ?_;refine Wq Ao ?_;refine Wq (Af (TQ (row k) d S S (hr k) hd (by omega) (Ex h0))) ?_;refine Wm ?_;refine Wq Ba ?_;refine Wq Ba ?_;refine Al ?_;refine Sf ?_;refine Wa<|Y0 ?_
    refine Dr [[],[],[],[],[(30,2),(31,3)],[(32,4)],[(29,1),(33,5)],[(34,6)],[(28,0),(35,7)]] [[],[],[],[],[2,3],[2,3,4],[1,2,3,4,5],[1,2,3,4,5,6],[0,1,2,3,4,5,6,7]] ?_
    refine Xq Ae ?_;refine Xq Ao ?_;refine Xq Ae ?_;refine Xq Ae ?_;refine Xq AK ?_;refine Xq At ?_;(refine Hq rfl ?_;refine BK (Aa rfl) rfl rfl rfl ?_;(repeat ((first | refine ⟨_,AH (ah rfl),?_⟩ | refine ⟨_,Po rfl,?_⟩);refine ⟨_,rfl,?_⟩));refine ⟨_,rfl,?_⟩;refine ⟨_,rfl,?_⟩);(refine Xq (Bv (ah rfl) (Aa rfl) (Aa rfl) rfl rfl rfl rfl rfl) ?_);refine Xq (Af (Jz hb h1 (by omega) (by omega))) ?_;refine ⟨_,rfl,?_⟩
    refine Wa ?_;apply AWl.nil;apply Ah;refine Yn<|AWp.region ?_;refine Wq AQ ?_;refine Wm ?_;apply AWl.nil
    refine ALoop.next (n - (k+1)) (by omega) ⟨k+1,by omega,rfl,rfl⟩ ?_
    exact Aj (by exact Yd<|Yp<|Yp<|FrLe.cons rfl (AVle.le (CH e1.symm))<|Yd<|Yd<|Yd<|FrLe.nil) (by exact HpLe.cons (OwLe.obj rfl)<|HpLe.cons (Cb rfl)<|Yv<|Yv<|HpLe.nil)
  ·obtain rfl : k = n := by omega
   apply Y1;refine Wq Ai ?_;refine Y0<|Ac ?_;refine Cf ?_;apply AL;apply Aw;apply AD;apply Az;refine Yn<|Y1 ?_;refine Wq Ao ?_;refine Wm ?_;(refine BO rfl rfl ?_;(refine BK (Aa rfl) rfl rfl rfl ?_;(repeat ((first | refine ⟨_,AH (ao rfl),?_⟩ | refine ⟨_,Po rfl,?_⟩);refine ⟨_,rfl,?_⟩));refine ⟨_,rfl,?_⟩));refine Sf ?_;apply Y0;apply As
   refine FK (RetsA.d (Rets.of1 (ResV.cell rfl rfl (Aa rfl) rfl rfl rfl) (D.le.refl _))) rfl ?_ rfl
   exact ⟨rfl,_,_,_,_,rfl⟩
section
variable {P : Program} {s0:An} {n:Nat} {ops:Array Oper} {Q:Exit→AS→Prop} {rest:List Oper} {fr:List (Nat × AV)} {hp:List Ow} {ty:TypeId} {ps:String} {af:Array Edge}
theorem VP {x y:Operand} {t T bytes id m b e c0 T0:Nat} {z z':Value} {d:TypeDesc} {fr':List (Nat × AV)} {hpf:Nat→List Ow} {L:List HE} {g0:Nat} (id2 i:Nat) (f:Nat→Rat) (len:Nat) (hx:AS.arg ⟨fr,hp⟩ x = .own id) (hh:hp[id]? = some (.row T 4 [])) (h0:0<len) (hy:AS.arg ⟨fr,hp⟩ y = .d (sX g0 len c0)) (hh2:hp[id2]? = some (.obj (BA L))) (hi:L[i]? = some ⟨g0,T0,BE f len⟩)
  (ht:Tab P t (.slice T) m b z') (hT:Tab P T d 4 bytes z) (hzs:z.cells.size = 4) (hd:Nat.blt e n = true) (hbytes:Nat.ble bytes 65536 = true) (hl:len≤1000000) (hf:Eb id (slD T 4 []) fr = some fr') (hpl:PlainHp id hp) (hs:∀ g,DP hp id (.obj (BA [⟨g,T,BE f len⟩])) = some (hpf g))
  (h:∀ g c,len≤c→AWl P s0 n ops Q rest ⟨(e,.d (sX g len c)) :: fr',hpf g⟩):AWl P s0 n ops Q (⟨some e,.call { callee:=.builtin .append,args:=#[x,y],argTypes:=#[t,t] },ty,ps,af,none⟩ :: rest) ⟨fr,hp⟩:=by
 have hlr:((List.range len).map fun j=>BH (f j)).length = len:=by simp
 have hb:bytes≤65536:=by simpa [Nat.ble_eq] using hbytes
 refine ZE id2 i ((List.range len).map fun j=>BH (f j)) hx hh (fun k hk=>?_) (by rw [hlr];exact h0) hy hlr.symm hh2 hi ht hT hzs hd ?_ (by rw [hlr];omega) hf hpl hs fun g c hc=>?_
 ·rw [hlr] at hk
  rw [List.getD_eq_getElem?_getD,List.getElem?_map,List.getElem?_range hk]
  exact DD _
 ·rw [hlr]
  exact Nat.le_trans (Nat.mul_le_mul hl hb) (by decide)
 ·rw [hlr] at hc ⊢
  exact h g c hc
theorem SM {x y:Operand} {t T bytes id m b e:Nat} {z z':Value} {d:TypeDesc} {fr':List (Nat × AV)} {hpf:Nat→List Ow} (f:Nat→Rat) (len:Nat) (hx:AS.arg ⟨fr,hp⟩ x = .own id) (hh:hp[id]? = some (.row T 4 [])) (h0:0<len) (hy:EH hp (AS.arg ⟨fr,hp⟩ y) = some (Gy f len))
  (ht:Tab P t (.slice T) m b z') (hT:Tab P T d 4 bytes z) (hzs:z.cells.size = 4) (hd:Nat.blt e n = true) (hbytes:Nat.ble bytes 65536 = true) (hl:len≤1000000) (hf:Eb id (slD T 4 []) fr = some fr') (hpl:PlainHp id hp) (hs:∀ g,DP hp id (.obj (BA [⟨g,T,BE f len⟩])) = some (hpf g))
  (h:∀ g c,len≤c→AWl P s0 n ops Q rest ⟨(e,.d (sX g len c)) :: fr',hpf g⟩):AWl P s0 n ops Q (⟨some e,.call { callee:=.builtin .append,args:=#[x,y],argTypes:=#[t,t] },ty,ps,af,none⟩ :: rest) ⟨fr,hp⟩:=by
 have hlr:((List.range len).map fun j=>BH (f j)).length = len:=by simp
 have hb:bytes≤65536:=by simpa [Nat.ble_eq] using hbytes
 refine ZG (r2:=(List.range len).map fun j=>BH (f j)) hx hh (fun k hk=>?_) (by rw [hlr];exact h0) hy ht hT hzs hd ?_ (by rw [hlr];omega) hf hpl hs fun g c hc=>?_
 ·rw [hlr] at hk
  rw [List.getD_eq_getElem?_getD,List.getElem?_map,List.getElem?_range hk]
  exact DD _
 ·rw [hlr]
  exact Nat.le_trans (Nat.mul_le_mul hl hb) (by decide)
 ·rw [hlr] at hc ⊢
  exact h g c hc
end
theorem JF {x y z:AS} (h:AS.le x y) (h':AS.le y z):AS.le x z:=fun s0 n a w hs=>h' s0 n a w (h s0 n a w hs)
def IW (M : Nat→Nat→Rat) (p a q:Nat):Rat:=M a q - M p a / M p p*M p q
def FN (M : Nat→Nat→Rat) (p k i a q:Nat):Rat:=if a<k∨(a = k∧q<i) then IW M p a q else M a q
theorem Uj (M : Nat→Nat→Rat) (p:Nat):FN M p 0 0 = M:=by
 funext a q
 rw [FN,if_neg (by omega)]
theorem Tk {M : Nat→Nat→Rat} {p k i:Nat}:FN M p k i k i = M k i:=by rw [FN,if_neg (by omega)]
theorem Uk (M : Nat→Nat→Rat) (p k i:Nat):Yu (FN M p k i) k i (FN M p k i k i - M p k / M p p*M p i) = FN M p k (i+1):=by
 funext a q
 rw [Tk]
 unfold Yu GL
 by_cases h:a = k
 ·subst h
  rw [if_pos rfl]
  by_cases hq:q = i
  ·subst hq
   rw [if_pos rfl,FN,if_pos (by omega)]
   rfl
  ·rw [if_neg hq]
   unfold FN
   by_cases hc:q<i
   ·rw [if_pos (by omega),if_pos (by omega)]
   ·rw [if_neg (by omega),if_neg (by omega)]
 ·rw [if_neg h]
  unfold FN
  by_cases hc:a<k
  ·rw [if_pos (by omega),if_pos (by omega)]
  ·rw [if_neg (by omega),if_neg (by omega)]
theorem WA {M : Nat→Nat→Rat} {p k n a q:Nat} (hq:q<n):FN M p k n a q = FN M p (k+1) 0 a q:=by
 unfold FN
 by_cases hc:a<k+1
 ·rw [if_pos (by omega),if_pos (by omega)]
 ·rw [if_neg (by omega),if_neg (by omega)]
theorem WB {M : Nat→Nat→Rat} {p n a q:Nat} (ha:a<n):FN M p n 0 a q = IW M p a q:=by
 rw [FN,if_pos (by omega)]
theorem YJ {M : Nat→Nat→Rat} {p S:Nat} (hM:∀ i j,RSz (M i j) S) (h0:M p p ≠ 0):∀ i j,RSz (IW M p i j) (S+(S+S+S)+1):=fun i j=>(hM i j).subQ (((hM p i).divQ (hM p p) h0).mul (hM p j))
theorem Ry (n p S b0 c0:Nat) (b c:Nat→Nat) (M:Nat→Nat→Rat) (hp:p<n) (hn:n≤100) (hM:∀ i j,RSz (M i j) S) (hS:S≤10000000) (h0:M p p ≠ 0) :
  Con Tryz.prog 54 [.d (sX b0 n c0),.d (ex (.int .i64 (p:Nat)))] [.obj (BA (DO b0 n n b c M))] [] (fun r hp'=>r = .d Dw∧∃ g,hp' = [.obj (BA (DO b0 n n b c (IW M p))),.dead,.obj (BA [⟨g,54,BE (M p) n⟩])]):=by
 have hnp:0<n:=by omega
 have hn1:n≤1000000:=by omega
 refine Mr Tryz.func54 rfl (AI Tryz.func54 (by kernel_rfl) (by kernel_rfl)) rfl fun s0 pv0=>?_
 rw [Tryz.ntmps54]
 apply Y1;refine CM (Aa rfl) (Aa rfl) rfl rfl rfl rfl rfl ?_;refine Wm<|Wm ?_;refine Wq (Ch (k:=p) (ao rfl) (ao rfl) (Aa rfl) (Aa rfl) hp) ?_;refine Wq (Eq 0 0 (ao rfl) rfl CY (Aa rfl) rfl (CV hp (Nat.le_refl n))) ?_;(refine VP 0 (p+1) (M p) n (ao rfl) rfl hnp (ao rfl) rfl (Di hp) (Aa rfl) (Aa rfl) rfl rfl rfl hn1 rfl (by first | ((repeat (first | exact PlainHp.nil | refine PlainHp.var ?_ | refine Da ?_ | refine PlainHp.dead ?_ | refine PlainHp.obj ?_ | refine PlainHp.pin rfl ?_ | refine CL rfl ?_));done) | fail) (fun g=>rfl) fun g cg hcg=>?_);refine Wa<|Y0<|Y1<|Wm ?_;refine Wq (Ju (ao rfl) (Aa rfl)) ?_;refine Wm<|Y0<|AWp.block ?_
 refine AJ (fun mz σ=>∃ k,k≤n∧mz = n - k∧σ = ⟨[(0,.d (sX b0 n c0)),(1,.d (ex (.int .i64 (p:Nat)))),(4,.d (sX g n cg)),(15,.d (sX b0 n c0)),(16,.d (ex (.int .i64 (n:Nat)))),(17,.d (ex (.int .i64 (k:Nat))))],[.obj (BA (DO b0 n n b c (FN M p k 0))),.pin [(pv0,.own 0)],.obj (BA [⟨g,54,BE (M p) n⟩])]⟩) ?le ⟨0,by omega,rfl,rfl⟩ ?round
 case le=>exact Aj (by exact Yd<|Yd<|Yd<|Yd<|Yd<|Yd<|FrLe.nil) (by exact HpLe.cons (OwLe.obj (by rw [Uj]))<|HpLe.cons (Cb rfl)<|HpLe.cons (OwLe.obj rfl)<|HpLe.nil)
 case round =>
  rintro mz _ ⟨k,hk,rfl,rfl⟩
  by_cases hlt:k<n
  ·apply Y1;refine Wq Ak ?_;refine Y0<|Ac ?_;refine Ct ?_;refine Ys<|Ac<|AWp.block<|Y1<|Wm<|Wa<|Y0<|Ac ?_
   refine Fj (Db (e:=11) (by kernel_rfl) (K4 (K4 (K4 (AddE.keep (AddE.add (AddE.keep AddE.nil)))))) (by kernel_rfl)) [[],[],[(21,0),(22,1)],[(23,2)],[],[],[(25,4),(26,5)],[(27,6)],[(24,3),(28,7)],[(29,8)],[(20,9)],[(20,9)],[]] [[],[],[0,1],[0,1,2],[],[],[4,5],[4,5,6],[0,1,2,3,4,5,6,7],[0,1,2,3,4,5,6,7,8],[0,1,2,3,4,5,6,7,8,9],[0,1,2,3,4,5,6,7,8,9],[]] rfl (by kernel_rfl) (by kernel_rfl) (by kernel_rfl) ?_
   refine Xq Ae ?_;refine Xq Ae ?_;refine Xq (Ch (k:=k) (ah rfl) (ah rfl) (Aa rfl) (Aa rfl) hlt) ?_;refine Xq (Er (e:=⟨g,54,BE (M p) n⟩) 2 0 (ah rfl) rfl rfl (Aa rfl) rfl (BY hlt)) ?_;refine Xq Ae ?_;refine Xq Ae ?_;refine Xq (Ch (k:=p) (ah rfl) (ah rfl) (Aa rfl) (Aa rfl) hp) ?_;refine Xq (Er (e:=⟨g,54,BE (M p) n⟩) 2 0 (ah rfl) rfl rfl (Aa rfl) rfl (BY hp)) ?_;refine Xq (Af (TQ (M p k) (M p p) S S (hM p k) (hM p p) (by omega) (Ex h0))) ?_;refine Xq Ae ?_;refine Xq Ba ?_;refine Xq Ba ?_;refine Xn ?_;refine ⟨_,rfl,?_⟩
   refine Sf ?_;refine Wa ?_;apply AWl.nil;apply OnlyN.mk';refine Yn<|Y1<|Wm<|Wm ?_;refine Wq (Ch (k:=k) (ao rfl) (ao rfl) (Aa rfl) (Aa rfl) hlt) ?_;refine Wq (Eq 0 0 (ao rfl) rfl CY (Aa rfl) rfl (CV hlt (Nat.le_refl n))) ?_;refine Wq (Ju (ao rfl) (Aa rfl)) ?_;refine Wm<|Y0<|AWp.block ?_
   refine AJ (fun mz σ=>∃ i,i≤n∧mz = n - i∧σ = ⟨[(0,.d (sX b0 n c0)),(1,.d (ex (.int .i64 (p:Nat)))),(4,.d (sX g n cg)),(15,.d (sX b0 n c0)),(16,.d (ex (.int .i64 (n:Nat)))),(17,.d (ex (.int .i64 (k:Nat)))),(5,.d (ex (.int .i64 (k:Nat)))),(6,.ptr 3 0),(35,.d (sX (b k) n (c k))),(36,.d (ex (.int .i64 (n:Nat)))),(37,.d (ex (.int .i64 (i:Nat))))],[.obj (BA (DO b0 n n b c (FN M p k i))),.pin [(pv0,.own 0)],.obj (BA [⟨g,54,BE (M p) n⟩]),.var 54 ((BH (M p k / M p p)).map .d)]⟩) ?lei ⟨0,by omega,rfl,rfl⟩ ?roundi
   case lei=>exact Aj (by exact Yd<|Yd<|Yd<|Yd<|Yd<|Yd<|Yd<|Yp<|Yd<|Yd<|Yd<|FrLe.nil) (by exact HpLe.cons (OwLe.obj rfl)<|HpLe.cons (Cb rfl)<|HpLe.cons (OwLe.obj rfl)<|Yv<|HpLe.nil)
   case roundi =>
    rintro mz _ ⟨i,hi,rfl,rfl⟩
    by_cases hlti:i<n
    ·have hz : RSz (FN M p k i k i) S := by rw [Tk]; exact hM k i
     have hf:RSz (M p k / M p p) (S+S):=(hM p k).divQ (hM p p) h0
     apply Y1;refine Wq Ak ?_;refine Y0<|Ac ?_;refine Ct ?_;refine Ys<|Ac<|AWp.block<|Y1<|Wm<|Wa<|Y0 ?_
     refine Dr [[],[],[(40,0),(41,1)],[(42,2)],[],[],[],[(45,5),(46,6)],[(47,7)],[],[(48,8),(49,9)],[(50,10)],[],[],[],[(53,13),(54,14)],[(55,15)],[(52,12),(56,16)],[(51,11),(57,17)],[(43,3),(44,4)]] [[],[],[0,1],[0,1,2],[],[],[],[5,6],[5,6,7],[],[5,6,7,8,9],[5,6,7,8,9,10],[],[],[],[13,14],[13,14,15],[12,13,14,15,16],[5,6,7,8,9,10,11,12,13,14,15,16,17],[0,1,2,3,4,5,6,7,8,9,10,11,12,13,14,15,16,17,18]] ?_
     refine Xq Ae ?_;refine Xq Ae ?_;refine Xq (Ch (k:=k) (ah rfl) (ah rfl) (Aa rfl) (Aa rfl) hlt) ?_;refine Xq (Eq 0 0 (ah rfl) rfl CY (Aa rfl) rfl (CV hlt (Nat.le_refl n))) ?_;refine Xq Ae ?_;refine Xq Ae ?_;refine Xq Ae ?_;refine Xq (Ch (k:=k) (ah rfl) (ah rfl) (Aa rfl) (Aa rfl) hlt) ?_;refine Xq (Eq 0 0 (ah rfl) rfl CY (Aa rfl) rfl (CV hlt (Nat.le_refl n))) ?_;refine Xq Ae ?_;refine Xq (Ch (k:=i) (ah rfl) (ah rfl) (Aa rfl) (Aa rfl) hlti) ?_;refine Xq (Er (e:=⟨b k,54,BE (FN M p k i k) n⟩) 0 (k+1) (ah rfl) rfl (Di hlt) (Aa rfl) rfl (BY hlti)) ?_;refine Xq Ao ?_;refine Xq Ae ?_;refine Xq Ae ?_;refine Xq (Ch (k:=i) (ah rfl) (ah rfl) (Aa rfl) (Aa rfl) hlti) ?_;refine Xq (Er (e:=⟨g,54,BE (M p) n⟩) 2 0 (ah rfl) rfl rfl (Aa rfl) rfl (BY hlti)) ?_;refine Xq (Af (TN (M p k / M p p) (M p i) (S+S) S hf (hM p i) (by omega))) ?_;refine Xq (Af (Zi (FN M p k i k i) (M p k / M p p*M p i) S (S+S+S) hz (hf.mul (hM p i)) (by omega))) ?_;refine Xq (Ch (k:=i) (ah rfl) (ah rfl) (Aa rfl) (Aa rfl) hlti) ?_;refine ⟨_,rfl,?_⟩
     refine JD (e:=⟨b k,54,BE (FN M p k i k) n⟩) 0 (k+1) (ao rfl) (ao rfl) rfl (Di hlt) (Aa rfl) rfl (IJ hlti) rfl ?_;apply AWl.nil;apply Ah;refine Yn<|AWp.region ?_;refine Wq AQ ?_;refine Wm ?_;apply AWl.nil
     refine ALoop.next (n - (i+1)) (by omega) ⟨i+1,by omega,rfl,rfl⟩ ?_
     exact Aj (by exact Yd<|Yd<|Yd<|Yd<|Yd<|Yd<|Yd<|Yp<|Yd<|Yd<|Yd<|FrLe.nil) (by exact HpLe.cons (OwLe.obj (by rw [UB hlt,Uk]))<|HpLe.cons (Cb rfl)<|HpLe.cons (OwLe.obj rfl)<|Yv<|HpLe.nil)
    ·obtain rfl : n = i := by omega
     apply Y1;refine Wq Ai ?_;refine Y0<|Ac ?_;refine Cf ?_;apply AL;apply Aw;apply AD;apply Az;apply Ah;refine Yn<|AWp.region ?_;refine Wq AQ ?_;refine Wm ?_;apply AWl.nil
     refine ALoop.next (n - (k+1)) (by omega) ⟨k+1,by omega,rfl,rfl⟩ ?_
     exact Aj (by exact Yd<|Yd<|Yd<|Yd<|Yd<|Yd<|FrLe.nil) (by exact HpLe.cons (OwLe.obj (by rw [Km fun a ha q hq=>WA hq]))<|HpLe.cons (Cb rfl)<|HpLe.cons (OwLe.obj rfl)<|HpLe.nil)
  ·obtain rfl : n = k := by omega
   apply Y1;refine Wq Ai ?_;refine Y0<|Ac ?_;refine Cf ?_;apply AL;apply Aw;apply AD;apply Az
   refine Ra Si rfl ?_ rfl
   exact ⟨rfl,g,by rw [Km (M:=FN M p n 0) fun a ha q hq=>WB ha]⟩
def Ns (r c:Nat):Nat:=if r = 0 then 0 else c
theorem Jn (r c:Nat) (M:Nat→Nat→Rat) (hr:r≤1000):Abs Tryz.prog 56 [Ck r c M] (ex (.int .i64 (Ns r c:Nat))):=by
 by_cases h:r = 0
 ·subst h
  refine Ab Tryz.func56 fun s0=>?_
  rw [Tryz.ntmps56]
  refine Y1<|Wa<|Y0<|Ac<|Y1<|Wm ?_;refine Wq (Bl rfl (Aa rfl)) ?_;refine Wq Ak ?_;apply Y0;refine Ct ?_;refine Y1<|Wa<|Y0 ?_;apply As;apply AM
  exact Yf
 ·have h0 : 0 < r := by omega
  have e:Ns r c = c:=if_neg h
  rw [e]
  refine Ab Tryz.func56 fun s0=>?_
  rw [Tryz.ntmps56]
  refine Y1<|Wa<|Y0<|Ac<|Y1<|Wm ?_;refine Wq (Bl rfl (Aa rfl)) ?_;refine Wq Ai ?_;apply Y0;refine Cf ?_;refine Ys<|Y1<|Wm ?_;refine Wq (AC (k:=0) rfl (ao rfl) (Aa rfl) (Aa rfl) rfl h0) ?_;refine Wq Bf ?_;refine Wq (Bl rfl (Aa rfl)) ?_;refine Wa<|Y0 ?_;apply As
  exact Yf
theorem FG (r c:Nat) (M:Nat→Nat→Rat) (N:Nat) (hM:∀ i j,RSz (M i j) N) (hN:N≤1000000000) (hr:r≤1000) (hc:c≤1000):Abs Tryz.prog 55 [Ck r c M] (ex (.bool true)):=by
 refine Ab Tryz.func55 fun s0=>?_
 rw [Tryz.ntmps55]
 refine Y1<|Wa<|Y0<|Ac<|Y1<|Wa<|Y0<|AWp.block ?_
 refine AJ (fun mz σ=>∃ k,k≤r∧mz = r - k∧σ = ⟨[(0,.d (Ck r c M)),(3,.d (ex (.int .i64 (k:Nat))))],[]⟩) ?le ⟨0,by omega,rfl,rfl⟩ ?round
 case le=>exact Aj (by exact Yd<|Yd<|FrLe.nil) (by exact HpLe.nil)
 case round =>
  rintro mz _ ⟨k,hk,rfl,rfl⟩
  by_cases hlt:k<r
  ·have ec : Ns r c = c := if_neg (by omega)
   have cc:=Jn r c M hr
   rw [ec] at cc
   refine Ac<|Y1<|Wm<|Wm ?_;refine Wq (Bl rfl (Aa rfl)) ?_;refine Wq Ak ?_;apply Y0;refine Ct ?_;refine Ys<|Ac<|AWp.block<|Ac<|Ac ?_
   refine Dr [[],[],[(11,0),(12,1)],[(13,2)],[(14,3)],[],[(16,5)],[(15,4),(17,6)]] [[],[],[0,1],[0,1,2],[0,1,2,3],[],[5],[0,1,2,3,4,5,6]] ?_
   refine Xq Ae ?_;refine Xq Ae ?_;refine Xq (AC (k:=k) rfl (ah rfl) (Aa rfl) (Aa rfl) rfl hlt) ?_;refine Xq Bf ?_;refine Xq (Bl rfl (Aa rfl)) ?_;refine Xq Ae ?_;refine Xq (Af (cc)) ?_;refine Xq Ai ?_;refine ⟨_,rfl,?_⟩
   apply Y0;refine Cf ?_;refine Ys<|Y1<|Wa<|Y0<|AWp.block ?_
   refine AJ (fun mz σ=>∃ i,i≤c∧mz = c - i∧σ = ⟨[(0,.d (Ck r c M)),(3,.d (ex (.int .i64 (k:Nat)))),(4,.d (ex (.int .i64 (i:Nat))))],[]⟩) ?lei ⟨0,by omega,rfl,rfl⟩ ?roundi
   case lei=>exact Aj (by exact Yd<|Yd<|Yd<|FrLe.nil) (by exact HpLe.nil)
   case roundi =>
    rintro mz _ ⟨i,hi,rfl,rfl⟩
    by_cases hlti:i<c
    ·refine Ac<|Y1<|Wm<|Wm<|Wm ?_;refine Wq (AC (k:=k) rfl (ao rfl) (Aa rfl) (Aa rfl) rfl hlt) ?_;refine Wq Bf ?_;refine Wq (Bl rfl (Aa rfl)) ?_;refine Wq Ak ?_;apply Y0;refine Ct ?_;refine Ys<|Ac<|AWp.block<|Y1<|Wm<|Wm ?_;refine Wq (AC (k:=k) rfl (ao rfl) (Aa rfl) (Aa rfl) rfl hlt) ?_;refine Wq Bf ?_;refine Wm ?_;refine Wq (AC (k:=i) rfl (ao rfl) (Aa rfl) (Aa rfl) rfl hlti) ?_;refine Wq At ?_;refine Wq (Af (OE (M k i) N (hM k i) hN)) ?_;refine Wq Bj ?_;apply Y0;refine Cf ?_;apply Bi;apply Ah;refine Yn<|AWp.region<|Wm ?_;refine Wq AQ ?_;refine Wa ?_;apply AWl.nil
     refine ALoop.next (c - (i+1)) (by omega) ⟨i+1,by omega,rfl,rfl⟩ ?_
     exact Aj (by exact Yd<|Yd<|Yd<|FrLe.nil) (by exact HpLe.nil)
    ·obtain rfl : c = i := by omega
     refine Ac<|Y1<|Wm<|Wm<|Wm ?_;refine Wq (AC (k:=k) rfl (ao rfl) (Aa rfl) (Aa rfl) rfl hlt) ?_;refine Wq Bf ?_;refine Wq (Bl rfl (Aa rfl)) ?_;refine Wq Ai ?_;apply Y0;refine Cf ?_;apply AL;apply Aw;apply AD;apply Az;apply Ah;refine Yn<|AWp.region<|Wm ?_;refine Wq AQ ?_;refine Wa ?_;apply AWl.nil
     refine ALoop.next (r - (k+1)) (by omega) ⟨k+1,by omega,rfl,rfl⟩ ?_
     exact Aj (by exact Yd<|Yd<|FrLe.nil) (by exact HpLe.nil)
  ·obtain rfl : r = k := by omega
   refine Ac<|Y1<|Wm<|Wm ?_;refine Wq (Bl rfl (Aa rfl)) ?_;refine Wq Ai ?_;apply Y0;refine Cf ?_;apply AL;apply Aw;apply AD;apply Az;refine Yn<|Y1<|Wa<|Y0 ?_;apply As
   exact Yf
theorem Nv (n : Nat) (M:Nat→Nat→Rat) (hn:n≤1000) (h:∀ i,i<n→∀ j,j<i→M i j = M j i):Abs Tryz.prog 57 [Ck n n M] (ex (.bool true)):=by
 refine Ab Tryz.func57 fun s0=>?_
 rw [Tryz.ntmps57]
 refine Y1<|Wa<|Y0<|Ac<|Y1<|Wa<|Y0<|AWp.block ?_
 refine AJ (fun mz σ=>∃ k,k≤n∧mz = n - k∧σ = ⟨[(0,.d (Ck n n M)),(3,.d (ex (.int .i64 (k:Nat))))],[]⟩) ?le ⟨0,by omega,rfl,rfl⟩ ?round
 case le=>exact Aj (by exact Yd<|Yd<|FrLe.nil) (by exact HpLe.nil)
 case round =>
  rintro mz _ ⟨k,hk,rfl,rfl⟩
  by_cases hlt:k<n
  ·refine Ac<|Y1<|Wm<|Wm ?_;refine Wq (Bl rfl (Aa rfl)) ?_;refine Wq Ak ?_;apply Y0;refine Ct ?_;refine Ys<|Ac<|AWp.block<|Y1<|Wa<|Y0<|AWp.block ?_
   refine AJ (fun mz σ=>∃ i,i≤k∧mz = k - i∧σ = ⟨[(0,.d (Ck n n M)),(3,.d (ex (.int .i64 (k:Nat)))),(4,.d (ex (.int .i64 (i:Nat))))],[]⟩) ?lei ⟨0,by omega,rfl,rfl⟩ ?roundi
   case lei=>exact Aj (by exact Yd<|Yd<|Yd<|FrLe.nil) (by exact HpLe.nil)
   case roundi =>
    rintro mz _ ⟨i,hi,rfl,rfl⟩
    by_cases hlti:i<k
    ·have cc:=Gd (h k hlt i hlti)
     have hin:i<n:=by omega
     refine Ac<|Y1<|Wm<|Wm ?_;refine Wq Ak ?_;apply Y0;refine Ct ?_;refine Ys<|Ac<|AWp.block<|Ac ?_
     refine Dr [[],[],[(16,0),(17,1)],[(18,2)],[],[(19,3),(20,4)],[(21,5)],[],[],[(23,7),(24,8)],[(25,9)],[],[(26,10),(27,11)],[(28,12)],[(22,6),(29,13)],[(30,14)]] [[],[],[0,1],[0,1,2],[],[0,1,2,3,4],[0,1,2,3,4,5],[],[],[7,8],[7,8,9],[],[7,8,9,10,11],[7,8,9,10,11,12],[0,1,2,3,4,5,6,7,8,9,10,11,12,13],[0,1,2,3,4,5,6,7,8,9,10,11,12,13,14]] ?_
     refine Xq Ae ?_;refine Xq Ae ?_;refine Xq (AC (k:=k) rfl (ah rfl) (Aa rfl) (Aa rfl) rfl hlt) ?_;refine Xq Bf ?_;refine Xq Ae ?_;refine Xq (AC (k:=i) rfl (ah rfl) (Aa rfl) (Aa rfl) rfl hin) ?_;refine Xq At ?_;refine Xq Ae ?_;refine Xq Ae ?_;refine Xq (AC (k:=i) rfl (ah rfl) (Aa rfl) (Aa rfl) rfl hin) ?_;refine Xq Bf ?_;refine Xq Ae ?_;refine Xq (AC (k:=k) rfl (ah rfl) (Aa rfl) (Aa rfl) rfl hlt) ?_;refine Xq At ?_;refine Xq (Af (cc)) ?_;refine Xq Bj ?_;refine ⟨_,rfl,?_⟩
     apply Y0;refine Cf ?_;apply Bi;apply Ah;refine Yn<|AWp.region<|Wm ?_;refine Wq AQ ?_;refine Wa ?_;apply AWl.nil
     refine ALoop.next (k - (i+1)) (by omega) ⟨i+1,by omega,rfl,rfl⟩ ?_
     exact Aj (by exact Yd<|Yd<|Yd<|FrLe.nil) (by exact HpLe.nil)
    ·obtain rfl : k = i := by omega
     refine Ac<|Y1<|Wm<|Wm ?_;refine Wq Ai ?_;apply Y0;refine Cf ?_;apply AL;apply Aw;apply AD;apply Az;apply Ah;refine Yn<|AWp.region<|Wm ?_;refine Wq AQ ?_;refine Wa ?_;apply AWl.nil
     refine ALoop.next (n - (k+1)) (by omega) ⟨k+1,by omega,rfl,rfl⟩ ?_
     exact Aj (by exact Yd<|Yd<|FrLe.nil) (by exact HpLe.nil)
  ·obtain rfl : n = k := by omega
   refine Ac<|Y1<|Wm<|Wm ?_;refine Wq (Bl rfl (Aa rfl)) ?_;refine Wq Ai ?_;apply Y0;refine Cf ?_;apply AL;apply Aw;apply AD;apply Az;refine Yn<|Y1<|Wa<|Y0 ?_;apply As
   exact Yf
theorem Vf (n : Nat) (M:Nat→Nat→Rat) (hn:n≤1000) (z w:Nat) (hz:z<n) (hw:w<z) (h:∀ i,i<z→∀ j,j<i→M i j = M j i) (h':∀ j,j<w→M z j = M j z) (hbad:M z w ≠ M w z):Abs Tryz.prog 57 [Ck n n M] (ex (.bool false)):=by
 refine Ab Tryz.func57 fun s0=>?_
 rw [Tryz.ntmps57]
 refine Y1<|Wa<|Y0<|Ac<|Y1<|Wa<|Y0<|AWp.block ?_
 refine AJ (fun mz σ=>∃ k,k≤z∧mz = z - k∧σ = ⟨[(0,.d (Ck n n M)),(3,.d (ex (.int .i64 (k:Nat))))],[]⟩) ?le ⟨0,by omega,rfl,rfl⟩ ?round
 case le=>exact Aj (by exact Yd<|Yd<|FrLe.nil) (by exact HpLe.nil)
 case round =>
  rintro mz _ ⟨k,hk,rfl,rfl⟩
  by_cases hlt:k<z
  ·have hkn : k < n := by omega
   refine Ac<|Y1<|Wm<|Wm ?_;refine Wq (Bl rfl (Aa rfl)) ?_;refine Wq Ak ?_;apply Y0;refine Ct ?_;refine Ys<|Ac<|AWp.block<|Y1<|Wa<|Y0<|AWp.block ?_
   refine AJ (fun mz σ=>∃ i,i≤k∧mz = k - i∧σ = ⟨[(0,.d (Ck n n M)),(3,.d (ex (.int .i64 (k:Nat)))),(4,.d (ex (.int .i64 (i:Nat))))],[]⟩) ?lei ⟨0,by omega,rfl,rfl⟩ ?roundi
   case lei=>exact Aj (by exact Yd<|Yd<|Yd<|FrLe.nil) (by exact HpLe.nil)
   case roundi =>
    rintro mz _ ⟨i,hi,rfl,rfl⟩
    by_cases hlti:i<k
    ·have cc:=Gd (h k hlt i hlti)
     have hin:i<n:=by omega
     refine Ac<|Y1<|Wm<|Wm ?_;refine Wq Ak ?_;apply Y0;refine Ct ?_;refine Ys<|Ac<|AWp.block<|Ac ?_
     refine Dr [[],[],[(16,0),(17,1)],[(18,2)],[],[(19,3),(20,4)],[(21,5)],[],[],[(23,7),(24,8)],[(25,9)],[],[(26,10),(27,11)],[(28,12)],[(22,6),(29,13)],[(30,14)]] [[],[],[0,1],[0,1,2],[],[0,1,2,3,4],[0,1,2,3,4,5],[],[],[7,8],[7,8,9],[],[7,8,9,10,11],[7,8,9,10,11,12],[0,1,2,3,4,5,6,7,8,9,10,11,12,13],[0,1,2,3,4,5,6,7,8,9,10,11,12,13,14]] ?_
     refine Xq Ae ?_;refine Xq Ae ?_;refine Xq (AC (k:=k) rfl (ah rfl) (Aa rfl) (Aa rfl) rfl hkn) ?_;refine Xq Bf ?_;refine Xq Ae ?_;refine Xq (AC (k:=i) rfl (ah rfl) (Aa rfl) (Aa rfl) rfl hin) ?_;refine Xq At ?_;refine Xq Ae ?_;refine Xq Ae ?_;refine Xq (AC (k:=i) rfl (ah rfl) (Aa rfl) (Aa rfl) rfl hin) ?_;refine Xq Bf ?_;refine Xq Ae ?_;refine Xq (AC (k:=k) rfl (ah rfl) (Aa rfl) (Aa rfl) rfl hkn) ?_;refine Xq At ?_;refine Xq (Af (cc)) ?_;refine Xq Bj ?_;refine ⟨_,rfl,?_⟩
     apply Y0;refine Cf ?_;apply Bi;apply Ah;refine Yn<|AWp.region<|Wm ?_;refine Wq AQ ?_;refine Wa ?_;apply AWl.nil
     refine ALoop.next (k - (i+1)) (by omega) ⟨i+1,by omega,rfl,rfl⟩ ?_
     exact Aj (by exact Yd<|Yd<|Yd<|FrLe.nil) (by exact HpLe.nil)
    ·obtain rfl : k = i := by omega
     refine Ac<|Y1<|Wm<|Wm ?_;refine Wq Ai ?_;apply Y0;refine Cf ?_;apply AL;apply Aw;apply AD;apply Az;apply Ah;refine Yn<|AWp.region<|Wm ?_;refine Wq AQ ?_;refine Wa ?_;apply AWl.nil
     refine ALoop.next (z - (k+1)) (by omega) ⟨k+1,by omega,rfl,rfl⟩ ?_
     exact Aj (by exact Yd<|Yd<|FrLe.nil) (by exact HpLe.nil)
  ·obtain rfl : z = k := by omega
   have hwn:w<n:=by omega
   refine Ac<|Y1<|Wm<|Wm ?_;refine Wq (Bl rfl (Aa rfl)) ?_;refine Wq Ak ?_;apply Y0;refine Ct ?_;refine Ys<|Ac<|AWp.block<|Y1<|Wa<|Y0<|AWp.block ?_
   refine AJ (fun mz σ=>∃ i,i≤w∧mz = w - i∧σ = ⟨[(0,.d (Ck n n M)),(3,.d (ex (.int .i64 (z:Nat)))),(4,.d (ex (.int .i64 (i:Nat))))],[]⟩) ?lei ⟨0,by omega,rfl,rfl⟩ ?roundi
   case lei=>exact Aj (by exact Yd<|Yd<|Yd<|FrLe.nil) (by exact HpLe.nil)
   case roundi =>
    rintro mz _ ⟨i,hi,rfl,rfl⟩
    by_cases hlti:i<w
    ·have cc:=Gd (h' i hlti)
     have hin:i<n:=by omega
     refine Ac<|Y1<|Wm<|Wm ?_;refine Wq Ak ?_;apply Y0;refine Ct ?_;refine Ys<|Ac<|AWp.block<|Ac ?_
     refine Dr [[],[],[(16,0),(17,1)],[(18,2)],[],[(19,3),(20,4)],[(21,5)],[],[],[(23,7),(24,8)],[(25,9)],[],[(26,10),(27,11)],[(28,12)],[(22,6),(29,13)],[(30,14)]] [[],[],[0,1],[0,1,2],[],[0,1,2,3,4],[0,1,2,3,4,5],[],[],[7,8],[7,8,9],[],[7,8,9,10,11],[7,8,9,10,11,12],[0,1,2,3,4,5,6,7,8,9,10,11,12,13],[0,1,2,3,4,5,6,7,8,9,10,11,12,13,14]] ?_
     refine Xq Ae ?_;refine Xq Ae ?_;refine Xq (AC (k:=z) rfl (ah rfl) (Aa rfl) (Aa rfl) rfl hz) ?_;refine Xq Bf ?_;refine Xq Ae ?_;refine Xq (AC (k:=i) rfl (ah rfl) (Aa rfl) (Aa rfl) rfl hin) ?_;refine Xq At ?_;refine Xq Ae ?_;refine Xq Ae ?_;refine Xq (AC (k:=i) rfl (ah rfl) (Aa rfl) (Aa rfl) rfl hin) ?_;refine Xq Bf ?_;refine Xq Ae ?_;refine Xq (AC (k:=z) rfl (ah rfl) (Aa rfl) (Aa rfl) rfl hz) ?_;refine Xq At ?_;refine Xq (Af (cc)) ?_;refine Xq Bj ?_;refine ⟨_,rfl,?_⟩
     apply Y0;refine Cf ?_;apply Bi;apply Ah;refine Yn<|AWp.region<|Wm ?_;refine Wq AQ ?_;refine Wa ?_;apply AWl.nil
     refine ALoop.next (w - (i+1)) (by omega) ⟨i+1,by omega,rfl,rfl⟩ ?_
     exact Aj (by exact Yd<|Yd<|Yd<|FrLe.nil) (by exact HpLe.nil)
    ·obtain rfl : w = i := by omega
     have cc:=Ml (M z w) (M w z)
     rw [decide_eq_false hbad] at cc
     refine Ac<|Y1<|Wm<|Wm ?_;refine Wq Ak ?_;apply Y0;refine Ct ?_;refine Ys<|Ac<|AWp.block<|Ac ?_
     refine Dr [[],[],[(16,0),(17,1)],[(18,2)],[],[(19,3),(20,4)],[(21,5)],[],[],[(23,7),(24,8)],[(25,9)],[],[(26,10),(27,11)],[(28,12)],[(22,6),(29,13)],[(30,14)]] [[],[],[0,1],[0,1,2],[],[0,1,2,3,4],[0,1,2,3,4,5],[],[],[7,8],[7,8,9],[],[7,8,9,10,11],[7,8,9,10,11,12],[0,1,2,3,4,5,6,7,8,9,10,11,12,13],[0,1,2,3,4,5,6,7,8,9,10,11,12,13,14]] ?_
     refine Xq Ae ?_;refine Xq Ae ?_;refine Xq (AC (k:=z) rfl (ah rfl) (Aa rfl) (Aa rfl) rfl hz) ?_;refine Xq Bf ?_;refine Xq Ae ?_;refine Xq (AC (k:=w) rfl (ah rfl) (Aa rfl) (Aa rfl) rfl hwn) ?_;refine Xq At ?_;refine Xq Ae ?_;refine Xq Ae ?_;refine Xq (AC (k:=w) rfl (ah rfl) (Aa rfl) (Aa rfl) rfl hwn) ?_;refine Xq Bf ?_;refine Xq Ae ?_;refine Xq (AC (k:=z) rfl (ah rfl) (Aa rfl) (Aa rfl) rfl hz) ?_;refine Xq At ?_;refine Xq (Af (cc)) ?_;refine Xq Bj ?_;refine ⟨_,rfl,?_⟩
     apply Y0;refine Ct ?_;refine Y1<|Wa<|Y0 ?_;apply As;apply Bk;apply AM;apply CR;apply Bk;apply Bk;apply AM;apply CR;apply Bk;apply AM
     exact Yf
theorem Qi (n p S:Nat) (M:Nat→Nat→Rat) (hp:p<n) (hn:n≤100) (hM:∀ i j,RSz (M i j) S) (hS:S≤10000000) (h0:M p p ≠ 0):Abs Tryz.prog 59 [Ck n n M,ex (.int .i64 (p:Nat))] (Ck n n (IW M p)):=by
 refine Ab Tryz.func59 fun s0=>?_
 rw [Tryz.ntmps59]
 refine Y1<|Wa<|Y0<|Y1 ?_;refine CM (Aa rfl) (Aa rfl) rfl rfl rfl rfl rfl ?_;refine Wa<|Y0<|Ac<|Y1<|Wa<|Y0<|AWp.block ?_
 refine AJ (fun mz σ=>∃ k,k≤n∧mz = n - k∧σ = ⟨[(0,.d (Ck n n M)),(1,.d (ex (.int .i64 (p:Nat)))),(5,.own 0),(6,.d (ex (.int .i64 (k:Nat))))],[.row 63 1 ((List.range k).map fun i=>[Gy (IW M p i) n])]⟩) ?le ⟨0,by omega,rfl,rfl⟩ ?round
 case le=>exact Aj (by exact Yd<|Yd<|FrLe.cons rfl (AVle.own rfl)<|Yd<|FrLe.nil) (by exact Yr<|HpLe.nil)
 case round =>
  rintro mz _ ⟨k,hk,rfl,rfl⟩
  by_cases hlt:k<n
  ·refine Ac<|Y1<|Wm<|Wm ?_;refine Wq (Bl rfl (Aa rfl)) ?_;refine Wq Ak ?_;apply Y0;refine Ct ?_;refine Ys<|Ac<|AWp.block<|Y1 ?_;refine CM (Aa rfl) (Aa rfl) rfl rfl rfl rfl rfl ?_;refine Wa<|Y0<|Ac ?_
   refine Fj (Db (e:=17) (by kernel_rfl) (K4 (K4 (K4 (K4 (AddE.keep (AddE.keep (AddE.keep (AddE.add (AddE.keep AddE.nil))))))))) (by kernel_rfl)) [[],[],[(20,0),(21,1)],[(22,2)],[],[(23,3),(24,4)],[(25,5)],[],[],[(27,7),(28,8)],[(29,9)],[],[(30,10),(31,11)],[(32,12)],[(26,6),(33,13)],[(34,14)],[(19,15)],[(19,15)],[]] [[],[],[0,1],[0,1,2],[],[0,1,2,3,4],[0,1,2,3,4,5],[],[],[7,8],[7,8,9],[],[7,8,9,10,11],[7,8,9,10,11,12],[0,1,2,3,4,5,6,7,8,9,10,11,12,13],[0,1,2,3,4,5,6,7,8,9,10,11,12,13,14],[0,1,2,3,4,5,6,7,8,9,10,11,12,13,14,15],[0,1,2,3,4,5,6,7,8,9,10,11,12,13,14,15],[]] rfl (by kernel_rfl) (by kernel_rfl) (by kernel_rfl) ?_
   refine Xq Ae ?_;refine Xq Ae ?_;refine Xq (AC (k:=p) rfl (ah rfl) (Aa rfl) (Aa rfl) rfl hp) ?_;refine Xq Bf ?_;refine Xq Ae ?_;refine Xq (AC (k:=k) rfl (ah rfl) (Aa rfl) (Aa rfl) rfl hlt) ?_;refine Xq At ?_;refine Xq Ae ?_;refine Xq Ae ?_;refine Xq (AC (k:=p) rfl (ah rfl) (Aa rfl) (Aa rfl) rfl hp) ?_;refine Xq Bf ?_;refine Xq Ae ?_;refine Xq (AC (k:=p) rfl (ah rfl) (Aa rfl) (Aa rfl) rfl hp) ?_;refine Xq At ?_;refine Xq (Af (NA (M p k) (M p p) S S (hM p k) (hM p p) (by omega) (Ex h0))) ?_;refine Xq Ae ?_;refine Xq Ba ?_;refine Xq Ba ?_;refine Xn ?_;refine ⟨_,rfl,?_⟩
   refine Sf ?_;refine Wa ?_;apply AWl.nil;apply OnlyN.mk';refine Yn<|Ac<|Y1<|Wa<|Y0<|AWp.block ?_
   refine AJ (fun mz σ=>∃ i,i≤n∧mz = n - i∧σ = ⟨[(0,.d (Ck n n M)),(1,.d (ex (.int .i64 (p:Nat)))),(5,.own 0),(6,.d (ex (.int .i64 (k:Nat)))),(7,.own 1),(8,.ptr 2 0),(10,.d (ex (.int .i64 (i:Nat))))],[.row 63 1 ((List.range k).map fun i=>[Gy (IW M p i) n]),.row 54 4 ((List.range i).map fun j=>BH (IW M p k j)),.var 54 ((BH (M p k / M p p)).map .d)]⟩) ?lei ⟨0,by omega,rfl,rfl⟩ ?roundi
   case lei=>exact Aj (by exact Yd<|Yd<|FrLe.cons rfl (AVle.own rfl)<|Yd<|FrLe.cons rfl (AVle.own rfl)<|Yp<|Yd<|FrLe.nil) (by exact Yr<|Yr<|Yv<|HpLe.nil)
   case roundi =>
    rintro mz _ ⟨i,hi,rfl,rfl⟩
    by_cases hlti:i<n
    ·have hf:RSz (M p k / M p p) (S+S):=(hM p k).divQ (hM p p) h0
     refine Ac<|Y1<|Wm<|Wm ?_;refine Wq (Bl rfl (Aa rfl)) ?_;refine Wq Ak ?_;apply Y0;refine Ct ?_;refine Ys<|Ac<|AWp.block ?_
     refine Dr [[],[],[],[(44,1),(45,2)],[(46,3)],[],[(47,4),(48,5)],[(49,6)],[],[],[],[(52,9),(53,10)],[(54,11)],[],[(55,12),(56,13)],[(57,14)],[(51,8),(58,15)],[(50,7),(59,16)],[(60,17)]] [[],[],[],[1,2],[1,2,3],[],[1,2,3,4,5],[1,2,3,4,5,6],[],[],[],[9,10],[9,10,11],[],[9,10,11,12,13],[9,10,11,12,13,14],[8,9,10,11,12,13,14,15],[1,2,3,4,5,6,7,8,9,10,11,12,13,14,15,16],[1,2,3,4,5,6,7,8,9,10,11,12,13,14,15,16,17]] ?_
     refine Xq Ae ?_;refine Xq Ae ?_;refine Xq Ae ?_;refine Xq (AC (k:=k) rfl (ah rfl) (Aa rfl) (Aa rfl) rfl hlt) ?_;refine Xq Bf ?_;refine Xq Ae ?_;refine Xq (AC (k:=i) rfl (ah rfl) (Aa rfl) (Aa rfl) rfl hlti) ?_;refine Xq At ?_;refine Xq Ao ?_;refine Xq Ae ?_;refine Xq Ae ?_;refine Xq (AC (k:=p) rfl (ah rfl) (Aa rfl) (Aa rfl) rfl hp) ?_;refine Xq Bf ?_;refine Xq Ae ?_;refine Xq (AC (k:=i) rfl (ah rfl) (Aa rfl) (Aa rfl) rfl hlti) ?_;refine Xq At ?_;refine Xq (Af (QG (M p k / M p p) (M p i) (S+S) S hf (hM p i) (by omega))) ?_;refine Xq (Af (Vr (M k i) (M p k / M p p*M p i) S (S+S+S) (hM k i) (hf.mul (hM p i)) (by omega))) ?_;(refine Xq (Bv (ah rfl) (Aa rfl) (Aa rfl) rfl rfl rfl rfl rfl) ?_);refine ⟨_,rfl,?_⟩
     (refine Ap ?_);refine Wa ?_;apply AWl.nil;apply Ah;refine Yn<|AWp.region<|Wm ?_;refine Wq AQ ?_;refine Wa ?_;apply AWl.nil
     refine ALoop.next (n - (i+1)) (by omega) ⟨i+1,by omega,rfl,rfl⟩ ?_
     exact Aj (by exact Yd<|Yd<|FrLe.cons rfl (AVle.own rfl)<|Yd<|FrLe.cons rfl (AVle.own rfl)<|Yp<|Yd<|FrLe.nil) (by apply Yr;(refine HpLe.cons (BJ (by rw [List.range_succ,List.map_append];rfl)) ?_);exact Yv<|HpLe.nil)
    ·obtain rfl : n = i := by omega
     refine Mt (σ':=⟨[(0,.d (Ck n n M)),(1,.d (ex (.int .i64 (p:Nat)))),(5,.own 0),(6,.d (ex (.int .i64 (k:Nat)))),(7,.d (Gy (IW M p k) n)),(10,.d (ex (.int .i64 (n:Nat))))],[.row 63 1 ((List.range k).map fun i=>[Gy (IW M p i) n])]⟩) ?_ ?_
     ·exact Aj (by exact Yd<|Yd<|FrLe.cons rfl (AVle.own rfl)<|Yd<|FrLe.cons rfl (Fp rfl (D.le.refl _))<|Yd<|FrLe.nil) (by exact Yr<|HpLe.nil)
     refine Ac<|Y1<|Wm<|Wm ?_;refine Wq (Bl rfl (Aa rfl)) ?_;refine Wq Ai ?_;apply Y0;refine Cf ?_;apply AL;apply Aw;apply AD;apply Az;refine Yn<|AWp.region<|Wm<|Wm ?_;(refine BO rfl rfl ?_;(refine Cw (Aa rfl) (Aa rfl) rfl rfl rfl rfl rfl ?_;(repeat ((first | refine ⟨_,AH (ao rfl),?_⟩ | refine ⟨_,Po rfl,?_⟩);refine ⟨_,rfl,?_⟩));refine ⟨_,rfl,?_⟩));(refine JE (r2:=[[Gy (IW M p k) n]]) (ao rfl) rfl rfl (Aa rfl) (Aa rfl) rfl rfl (by simp;omega) (by simp;omega) rfl (by first | ((repeat (first | exact PlainHp.nil | refine PlainHp.var ?_ | refine Da ?_ | refine PlainHp.dead ?_ | refine PlainHp.obj ?_ | refine PlainHp.pin rfl ?_ | refine CL rfl ?_));done) | fail) rfl ?_);refine Wa ?_;apply AWl.nil;apply Ah;refine Yn<|AWp.region<|Wm ?_;refine Wq AQ ?_;refine Wa ?_;apply AWl.nil
     refine ALoop.next (n - (k+1)) (by omega) ⟨k+1,by omega,rfl,rfl⟩ ?_
     exact Aj (by exact Yd<|Yd<|FrLe.cons rfl (AVle.own rfl)<|Yd<|FrLe.nil) (by (refine HpLe.cons (BJ (by rw [List.range_succ,List.map_append];rfl)) ?_);exact HpLe.nil)
  ·obtain rfl : n = k := by omega
   refine Ac<|Y1<|Wm<|Wm ?_;refine Wq (Bl rfl (Aa rfl)) ?_;refine Wq Ai ?_;apply Y0;refine Cf ?_;apply AL;apply Aw;apply AD;apply Az;refine Yn<|Y1<|Wm<|Wa<|Y0 ?_;apply As
   exact Yf
def AE (M : Nat→Nat→Rat):Nat→Nat→Nat→Rat
 | 0=>M
 | k+1=>if AE M k k k = 0 then AE M k else IW (AE M k) k
def Dj (ms : List (Nat→Int)) (M:Nat→Nat→Rat) (n:Nat):Nat→List Sq
 | 0=>[]
 | k+1=>if AE M k k k = 0 then Dj ms M n k else Dj ms M n k ++ [⟨AE M k k k,KD ms (AE M k k) (AE M k k k) n⟩]
theorem Ii (ms : List (Nat→Int)) (M:Nat→Nat→Rat) (n:Nat):∀ k,(Dj ms M n k).length≤k
 | 0=>Nat.le_refl _
 | k+1=>by
  have ih:=Ii ms M n k
  rw [Dj]
  split
  ·omega
  ·rw [List.length_append]
   exact Nat.succ_le_succ ih
def HI (M : Nat→Nat→Rat) (n k:Nat):Prop:=0≤AE M k k k∧(AE M k k k = 0→∀ j,j<n→AE M k k j = 0)
def Dd (S : Nat):Nat→Nat
 | 0=>S
 | k+1=>Dd S k+(Dd S k+Dd S k+Dd S k)+1
theorem Ez (S : Nat):∀ {k n:Nat},k≤n→Dd S k≤Dd S n
  | k, 0, h => by obtain rfl : k = 0 := by omega
                  exact Nat.le_refl _
  | k,n+1,h=>by
    rcases Nat.lt_or_ge n k with h' | h'
    · obtain rfl : k = n + 1 := by omega
      exact Nat.le_refl _
    · refine Nat.le_trans (Ez S h') ?_
      rw [Dd]
      omega
theorem LJ {M : Nat→Nat→Rat} {S:Nat} (hM:∀ i j,RSz (M i j) S):∀ k i j,RSz (AE M k i j) (Dd S k)
 | 0,i,j=>hM i j
 | k+1,i,j=>by
  have ih:=LJ hM k
  rw [AE,Dd]
  split
  ·exact (ih i j).mono (by omega)
  ·rename_i h
   exact YJ ih h i j
theorem UC {b0 n:Nat} {b c:Nat→Nat} {M:Nat→Nat→Rat}:[⟨b0,63,List.replicate n (ex (.slice none 0 0))⟩] = DO b0 n 0 b c M:=by
 simp only [DO,List.range_zero,List.map_nil]
 congr 2
 rw [List.map_congr_left (g:=fun _=>ex (.slice none 0 0)) fun i _=>if_neg (Nat.not_lt_zero i),List.map_const',List.length_range]
theorem Pf {q : Rat} (h:0≤q) (h0:q ≠ 0):q.num.sign = 1:=by
 have h1:=Rat.num_nonneg.2 h
 have h2:=Ex h0
 exact Int.sign_eq_one_of_pos (by omega)
section
variable {P : Program} {hp:List Ow} {arg:Operand→AV} {dd:Option Tmp} {ty:TypeId} {ps:String} {af:Array Edge} {gd:Option (Nat × Bool)}
theorem BN {x : Operand} {t:TypeId} {e n b k:Nat} {z:Value} {ms:List (Nat→Int)} (hx:EH hp (arg x) = some (Hp ms)) (hl:ms.length = k) (ht:Tab P t (.slice e) n b z):Quiet P hp ⟨dd,.call { callee:=.builtin .len,args:=#[x],argTypes:=#[t] },ty,ps,af,gd⟩ arg (.d (ex (.int .i64 (k:Nat)))):=by
 subst hl
 have:=Hd (dd:=dd) (ty:=ty) (ps:=ps) (af:=af) (gd:=gd) hx ht
 simpa using this
end
theorem Pg {q : Rat} (h:q<0):q.num.sign = -1:=by
 have h1:¬ 0≤q.num:=fun h2=>absurd (Rat.num_nonneg.1 h2) (Rat.not_le.2 h)
 exact Int.sign_eq_neg_one_of_neg (by omega)
theorem HH (n S:Nat) (e:Int) (ms:List (Nat→Int)) (M:Nat→Nat→Rat) (hn0:0<n) (hn:n≤100) (hl:ms.length = n) (hm:∀ m∈ms,In8 m 0 e) (he:e≤65535) (hM:∀ i j,RSz (M i j) S) (hS:Dd S n≤10000000) (hsy:∀ i,i<n→∀ j,j<i→M i j = M j i) (z:Nat) (hzn:z≤n) (hok:∀ k,k<z→HI M n k) (r:D) (hend:(z = n∧r = CE [FM (Dj ms M n n),ex (.int .i64 0)])∨(z<n∧r = CE [FM [],ex (.int .i64 280)]∧(AE M z z z<0∨AE M z z z = 0∧∃ w,w<n∧(∀ j,j<w→AE M z z j = 0)∧AE M z z w ≠ 0))) :
  Abs Tryz.prog 17 [Hp ms,Ck n n M] r:=by
 have hS0:S≤10000000:=Nat.le_trans (Ez S (Nat.zero_le n)) hS
 have hn1:n≤1000000:=by omega
 refine Ab Tryz.func17 fun s0=>?_
 rw [Tryz.ntmps17]
 refine Y1<|Wa<|Wa<|Y0<|Y1<|Wm ?_;refine Wq (BN rfl hl (Aa rfl)) ?_;refine Wa<|Y0<|Ac<|Y1<|Wm ?_;refine Wq (Af (GQ n n M S hM (by omega) (by omega) (by omega))) ?_;refine Wq Bj ?_;refine Wm ?_;refine Wg Ae ?_;refine Wg (Bl rfl (Aa rfl)) ?_;refine Wg Ae ?_;refine Wg Ai ?_;refine Wq AG ?_;refine Wm ?_;refine Wg Ae ?_;refine Wg Ak ?_;refine Wg Ae ?_;refine Wg Ae ?_;refine Wg (AC (k:=0) rfl (ao rfl) (Aa rfl) (Aa rfl) rfl hn0) ?_;refine Wg Bf ?_;refine Wg (Bl rfl (Aa rfl)) ?_;refine Wg Ae ?_;refine Wg Ai ?_;refine Wg AO ?_;refine Wq AG ?_;apply Y0;refine Cf ?_;refine Ys<|Ac<|Y1<|Wm ?_;refine Wq (Af (Wf n M S hM (by omega) (by omega) hsy)) ?_;refine Wq Bj ?_;apply Y0;refine Cf ?_;refine Ys<|Y1<|Wm ?_;refine TT (ao rfl) (ao rfl) (Aa rfl) (Aa rfl) rfl rfl hn1 rfl rfl rfl rfl (fun g=>rfl) fun b0=>?_;refine Wa<|Y0<|Ac<|Y1<|Wm ?_;refine Wq (Bl rfl (Aa rfl)) ?_;refine Wm<|Y0<|AWp.block ?_
 refine AJ (fun mz σ=>∃ k,k≤n∧mz = n - k∧∃ b c,σ = ⟨[(0,.d (Hp ms)),(6,.d (ex (.int .i64 (n:Nat)))),(7,.d (sX b0 n n)),(43,.d (Ck n n M)),(44,.d (ex (.int .i64 (n:Nat)))),(45,.d (ex (.int .i64 (k:Nat))))],[.obj (BA (DO b0 n k b c M))]⟩) ?le ⟨0,by omega,rfl,fun _=>0,fun _=>0,rfl⟩ ?round
 case le=>exact Aj (by exact Yd<|Yd<|Yd<|Yd<|Yd<|Yd<|FrLe.nil) (by exact HpLe.cons (OwLe.obj (by rw [UC]))<|HpLe.nil)
 case round =>
  rintro mz _ ⟨k,hk,rfl,b,c,rfl⟩
  by_cases hlt:k<n
  ·refine Ac<|AWp.region ?_; refine Wq Ak ?_; apply AWl.nil; refine Yn<|Ac ?_; refine Ct ?_; apply Bi; refine Yn<|Ac<|AWp.block<|Ac<|AWp.region<|Wm ?_; refine Wq (AC (k := k) rfl (ao rfl) (Aa rfl) (Aa rfl) rfl hlt) ?_; refine Wq Bf ?_; refine Wa<|Wa ?_; apply AWl.nil; refine Yn<|AWp.region<|Wm<|Wm ?_; refine CM (Aa rfl) (Aa rfl) rfl rfl rfl rfl rfl ?_; refine Wm ?_; (refine SM (M k) n (ao rfl) rfl hn0 rfl (Aa rfl) (Aa rfl) rfl rfl rfl hn1 rfl (by first | ((repeat (first | exact PlainHp.nil | refine PlainHp.var ?_ | refine Da ?_ | refine PlainHp.dead ?_ | refine PlainHp.obj ?_ | refine PlainHp.pin rfl ?_ | refine CL rfl ?_)); done) | fail) (fun g => rfl) fun g cg hcg => ?_); refine Wq (Ch (k := k) (ao rfl) (ao rfl) (Aa rfl) (Aa rfl) hlt) ?_; refine Yk 0 0 (ao rfl) (ao rfl) rfl CY (Aa rfl) (He rfl) (RQ hlt) rfl ?_; apply AWl.nil; apply Ah; refine Yn<|AWp.region ?_; refine Wq AQ ?_; refine Wm ?_; apply AWl.nil
   refine ALoop.next (n - (k+1)) (by omega) ⟨k+1,by omega,rfl,GL b k g,GL c k cg,rfl⟩ ?_
   refine JF (NN 0 1 (by decide) rfl rfl rfl rfl) ?_
   exact Aj (by exact Yd<|Yd<|Yd<|Yd<|Yd<|Yd<|FrLe.nil) (by exact HpLe.cons (OwLe.obj (by rw [RP]))<|HpLe.nil)
  ·obtain rfl : n = k := by omega
   apply Y1;refine Wq Ai ?_;refine Y0<|Ac ?_;refine Cf ?_;apply AL;apply Aw;apply AD;apply Az;refine Yn<|Y1<|Wa<|Y0<|Ac<|Y1<|Wm<|Wm<|Y0<|AWp.block ?_
   refine SN 10 56 5 rfl (by decide) (by decide) rfl rfl ?_
   refine AJ (fun mz σ=>∃ k,k≤z∧mz = z - k∧σ = ⟨[(0,.d (Hp ms)),(6,.d (ex (.int .i64 (n:Nat)))),(7,.d (sX b0 n n)),(10,.own 1),(57,.d (ex (.int .i64 (n:Nat)))),(58,.d (ex (.int .i64 (k:Nat))))],[.obj (BA (DO b0 n n b c (AE M k))),.row 56 5 ((Dj ms M n k).map Yw)]⟩) ?le ⟨0,by omega,rfl,rfl⟩ ?round
   case le=>exact Aj (by exact Yd<|Yd<|Yd<|FrLe.cons rfl (AVle.own rfl)<|Yd<|Yd<|FrLe.nil) (by exact HpLe.cons (OwLe.obj rfl)<|Yr<|HpLe.nil)
   case round =>
    rintro mz _ ⟨k,hk,rfl,rfl⟩
    by_cases hlt:k<z
    ·have hlt0:=hlt
     have hlt:k<n:=by omega
     have hG:=LJ hM k;have hL:=Ii ms M n k
     have hSk:Dd S k≤10000000:=Nat.le_trans (Ez S (show k≤n by omega)) hS
     by_cases hz:AE M k k k = 0
     ·have hs : (AE M k k k).num.sign = 0 := by rw [hz]; rfl
      have hrow:=(hok k hlt0).2 hz
      have e1:AE M (k+1) = AE M k:=by rw [AE,if_pos hz]
      have e2:Dj ms M n (k+1) = Dj ms M n k:=by rw [Dj,if_pos hz]
      apply Y1;refine Wq Ak ?_;refine Y0<|Ac ?_;refine Ct ?_;refine Ys<|Ac<|AWp.block<|Y1<|Wm<|Wa<|Y0<|Y1<|Wm<|Wm ?_;refine Wq (Ch (k:=k) (ao rfl) (ao rfl) (Aa rfl) (Aa rfl) hlt) ?_;refine Wq (Eq 0 0 (ao rfl) rfl CY (Aa rfl) rfl (CV hlt (Nat.le_refl n))) ?_;refine Wm ?_;refine Wq (Ch (k:=k) (ao rfl) (ao rfl) (Aa rfl) (Aa rfl) hlt) ?_;refine Wq (Er 0 (k+1) (e:=⟨b k,54,BE (AE M k k) n⟩) (ao rfl) rfl (Di hlt) (Aa rfl) rfl (BY hlt)) ?_;refine Al ?_;refine Sf ?_;refine Y0<|Y1 ?_;refine Wq Ao ?_;refine Wq (Af (BX (AE M k k k))) ?_;refine Y0<|AWp.block<|Y1 ?_;refine Wq Ai ?_;refine Wa<|Y0 ?_;refine Cf ?_;apply Y1;refine Wq Ak ?_;refine Wa<|Y0 ?_;refine Ct ?_;refine Y1<|Wm<|Wm ?_;refine Wq (Ch (k:=k) (ao rfl) (ao rfl) (Aa rfl) (Aa rfl) hlt) ?_;refine Wq (Eq 0 0 (ao rfl) rfl CY (Aa rfl) rfl (CV hlt (Nat.le_refl n))) ?_;refine Wq (Ju (ao rfl) (Aa rfl)) ?_;refine Wm<|Y0<|AWp.block ?_
      refine AJ (fun mz σ=>∃ i,i≤n∧mz = n - i∧σ = ⟨[(0,.d (Hp ms)),(6,.d (ex (.int .i64 (n:Nat)))),(7,.d (sX b0 n n)),(10,.own 1),(57,.d (ex (.int .i64 (n:Nat)))),(58,.d (ex (.int .i64 (k:Nat)))),(90,.d (sX (b k) n (c k))),(91,.d (ex (.int .i64 (n:Nat)))),(92,.d (ex (.int .i64 (i:Nat))))],[.obj (BA (DO b0 n n b c (AE M k))),.row 56 5 ((Dj ms M n k).map Yw)]⟩) ?lei ⟨0,by omega,rfl,rfl⟩ ?roundi
      case lei=>exact Aj (by exact Yd<|Yd<|Yd<|FrLe.cons rfl (AVle.own rfl)<|Yd<|Yd<|Yd<|Yd<|Yd<|FrLe.nil) (by exact HpLe.cons (OwLe.obj rfl)<|Yr<|HpLe.nil)
      case roundi =>
       rintro mz _ ⟨i,hi,rfl,rfl⟩
       by_cases hlti:i<n
       ·have hs2 : (AE M k k i).num.sign = 0 := by rw [hrow i hlti]; rfl
        apply Y1;refine Wq Ak ?_;refine Y0<|Ac ?_;refine Ct ?_;refine Ys<|Ac<|AWp.block<|Y1 ?_;refine Wq (Ch (k:=i) (ao rfl) (ao rfl) (Aa rfl) (Aa rfl) hlti) ?_;refine Wq (Er 0 (k+1) (e:=⟨b k,54,BE (AE M k k) n⟩) (ao rfl) rfl (Di hlt) (Aa rfl) rfl (BY hlti)) ?_;refine Al ?_;refine Sf ?_;refine Y0<|Y1 ?_;refine Wq Ao ?_;refine Wq (Af (BX (AE M k k i))) ?_;refine Wq Ai ?_;apply Y0;refine Cf ?_;apply Bi;apply Ah;refine Yn<|AWp.region ?_;refine Wq AQ ?_;refine Wm ?_;apply AWl.nil
        refine ALoop.next (n - (i+1)) (by omega) ⟨i+1,by omega,rfl,rfl⟩ ?_
        exact Aj (by exact Yd<|Yd<|Yd<|FrLe.cons rfl (AVle.own rfl)<|Yd<|Yd<|Yd<|Yd<|Yd<|FrLe.nil) (by exact HpLe.cons (OwLe.obj rfl)<|Yr<|HpLe.nil)
       ·obtain rfl : n = i := by omega
        apply Y1;refine Wq Ai ?_;refine Y0<|Ac ?_;refine Cf ?_;apply AL;apply Aw;apply AD;apply Az;apply Ah;apply Ah;refine Yn<|AWp.region ?_;refine Wq AQ ?_;refine Wm ?_;apply AWl.nil
        refine ALoop.next (z - (k+1)) (by omega) ⟨k+1,by omega,rfl,rfl⟩ ?_
        exact Aj (by exact Yd<|Yd<|Yd<|FrLe.cons rfl (AVle.own rfl)<|Yd<|Yd<|FrLe.nil) (by exact HpLe.cons (OwLe.obj (by rw [e1]))<|HpLe.cons (BJ (by rw [e2]))<|HpLe.nil)
     ·have hs:(AE M k k k).num.sign = 1:=Pf (hok k hlt0).1 hz
      have e1:AE M (k+1) = IW (AE M k) k:=by rw [AE,if_neg hz]
      have e2:Dj ms M n (k+1) = Dj ms M n k ++ [⟨AE M k k k,KD ms (AE M k k) (AE M k k k) n⟩]:=by rw [Dj,if_neg hz]
      apply Y1;refine Wq Ak ?_;refine Y0<|Ac ?_;refine Ct ?_;refine Ys<|Ac<|AWp.block<|Y1<|Wm<|Wa<|Y0<|Y1<|Wm<|Wm ?_;refine Wq (Ch (k:=k) (ao rfl) (ao rfl) (Aa rfl) (Aa rfl) hlt) ?_;refine Wq (Eq 0 0 (ao rfl) rfl CY (Aa rfl) rfl (CV hlt (Nat.le_refl n))) ?_;refine Wm ?_;refine Wq (Ch (k:=k) (ao rfl) (ao rfl) (Aa rfl) (Aa rfl) hlt) ?_;refine Wq (Er 0 (k+1) (e:=⟨b k,54,BE (AE M k k) n⟩) (ao rfl) rfl (Di hlt) (Aa rfl) rfl (BY hlt)) ?_;refine Al ?_;refine Sf ?_;refine Y0<|Y1 ?_;refine Wq Ao ?_;refine Wq (Af (BX (AE M k k k))) ?_;refine Y0<|AWp.block<|Y1 ?_;refine Wq Ai ?_;refine Wa<|Y0 ?_;refine Cf ?_;apply Y1;refine Wq Ai ?_;refine Wa<|Y0 ?_;refine Cf ?_;apply Ac
      refine Fj (Db (e:=0) (by kernel_rfl) (K4 (AddE.keep (AddE.keep (AddE.keep (AddE.add (AddE.keep (AddE.keep (AddE.keep AddE.nil)))))))) (by kernel_rfl)) [[],[],[],[],[(72,2),(73,3)],[(74,4)],[]] [[],[],[],[],[2,3],[2,3,4],[]] rfl (by kernel_rfl) (by kernel_rfl) (by kernel_rfl) ?_
      refine Xq Ae ?_;refine Xq Ae ?_;refine Xq Ae ?_;refine Xq Ae ?_;refine Xq (Ch (k:=k) (ah rfl) (ah rfl) (Aa rfl) (Aa rfl) hlt) ?_;refine Xq (Eq 0 0 (ah rfl) rfl CY (Aa rfl) rfl (CV hlt (Nat.le_refl n))) ?_;refine Xq Ao ?_;refine ⟨_,rfl,?_⟩
      refine Fi [0] [] (Rk ms (AE M k k) (AE M k k k) n (Dd S k) e hl hn hm he (hG k) (hG k k) hz hSk _ (k+1) (b k) (c k) (Di hlt)) (by first | exact Or.inl rfl | exact Or.inr ⟨by decide,rfl,by repeat (first | exact AvoidR.nil | refine Gj rfl ?_ | refine AvoidR.dead ?_ | refine Hh ?_ | refine AvoidR.obj ?_ | refine Gg ?_ | refine Gi rfl ?_ | refine AvoidR.pin rfl ?_)⟩) rfl rfl (by first | exact .inl ⟨rfl,rfl⟩ | exact .inr ⟨rfl,rfl⟩) (by repeat (first | exact ArgsC.nil | refine ArgsC.d rfl (D.le.refl _) ?_ | refine Es rfl rfl ?_)) (by decide) (by repeat (first | exact SelR.nil | refine SelR.var rfl ?_ | refine SelR.obj rfl ?_ | refine Jo rfl ?_ | refine Il rfl rfl rfl ?_)) (by repeat (first | exact trivial | refine ⟨⟨_,_,rfl⟩,?_⟩)) rfl ?_
      rintro _ _ ⟨rfl,T1,T2,c1,c2,rfl⟩
      refine ⟨_,_,_,(by first | exact AVRen.d | exact AVRen.own rfl | exact AVRen.ptr rfl | exact Et rfl),(by repeat (first | exact SetR.nil | (apply SetR.cons;(first | exact OwRen.dead | exact BP | exact OwRen.obj | exact Ca | exact BQ rfl);exact rfl))),(by repeat (first | exact AppR.nil | (apply AppR.cons;(first | exact OwRen.dead | exact BP | exact OwRen.obj | exact Ca | exact BQ rfl);exact rfl))),?_⟩
      refine Wq (Bv (ao rfl) (Aa rfl) (Aa rfl) rfl rfl rfl rfl rfl) ?_;(refine Ap ?_);refine Wa ?_;apply AWl.nil;apply OnlyN.mk';refine Yn<|AWp.region<|Wm<|Wm ?_
      refine Fi [0] [] (Ry n k (Dd S k) b0 n b c (AE M k) hlt hn hG hSk hz) (by first | exact Or.inl rfl | exact Or.inr ⟨by decide,rfl,by repeat (first | exact AvoidR.nil | refine Gj rfl ?_ | refine AvoidR.dead ?_ | refine Hh ?_ | refine AvoidR.obj ?_ | refine Gg ?_ | refine Gi rfl ?_ | refine AvoidR.pin rfl ?_)⟩) rfl rfl (by first | exact .inl ⟨rfl,rfl⟩ | exact .inr ⟨rfl,rfl⟩) (by repeat (first | exact ArgsC.nil | refine ArgsC.d rfl (D.le.refl _) ?_ | refine Es rfl rfl ?_)) (by decide) (by repeat (first | exact SelR.nil | refine SelR.var rfl ?_ | refine SelR.obj rfl ?_ | refine Jo rfl ?_ | refine Il rfl rfl rfl ?_)) (by repeat (first | exact trivial | refine ⟨⟨_,_,rfl⟩,?_⟩)) rfl ?_
      rintro _ _ ⟨rfl,g2,rfl⟩
      refine ⟨_,_,_,(by first | exact AVRen.d | exact AVRen.own rfl | exact AVRen.ptr rfl | exact Et rfl),(by repeat (first | exact SetR.nil | (apply SetR.cons;(first | exact OwRen.dead | exact BP | exact OwRen.obj | exact Ca | exact BQ rfl);exact rfl))),(by repeat (first | exact AppR.nil | (apply AppR.cons;(first | exact OwRen.dead | exact BP | exact OwRen.obj | exact Ca | exact BQ rfl);exact rfl))),?_⟩
      apply AWl.nil;apply Ah;apply Ah;refine Yn<|AWp.region ?_;refine Wq AQ ?_;refine Wm ?_;apply AWl.nil
      refine ALoop.next (z - (k+1)) (by omega) ⟨k+1,by omega,rfl,rfl⟩ ?_
      exact Aj (by exact Yd<|Yd<|Yd<|FrLe.cons rfl (AVle.own rfl)<|Yd<|Yd<|FrLe.nil) (by refine HpLe.cons (OwLe.obj (by rw [e1])) ?_;(refine HpLe.cons (BJ (by rw [e2,List.map_append];rfl)) ?_);exact HpLe.nil)
    ·obtain rfl : z = k := by omega
     rcases hend with ⟨rfl,rfl⟩ | ⟨hz1,rfl,hneg | ⟨hneg,w,hw,hrow,hbad⟩⟩
     ·apply Y1;refine Wq Ai ?_;refine Y0<|Ac ?_;refine Cf ?_;apply AL;apply Aw;apply AD;apply Az;refine Yn<|Y1<|Wm<|Wa<|Wa<|Y0 ?_;apply As
      exact AT (BG (ResV.tmp rfl rfl) (ResV.tmp rfl rfl) (Bu (D.le.refl _) (D.le.refl _)))
     ·have hs:(AE M z z z).num.sign = -1:=Pg hneg
      apply Y1;refine Wq Ak ?_;refine Y0<|Ac ?_;refine Ct ?_;refine Ys<|Ac<|AWp.block<|Y1<|Wm<|Wa<|Y0<|Y1<|Wm<|Wm ?_;refine Wq (Ch (k:=z) (ao rfl) (ao rfl) (Aa rfl) (Aa rfl) hz1) ?_;refine Wq (Eq 0 0 (ao rfl) rfl CY (Aa rfl) rfl (CV hz1 (Nat.le_refl n))) ?_;refine Wm ?_;refine Wq (Ch (k:=z) (ao rfl) (ao rfl) (Aa rfl) (Aa rfl) hz1) ?_;refine Wq (Er 0 (z+1) (e:=⟨b z,54,BE (AE M z z) n⟩) (ao rfl) rfl (Di hz1) (Aa rfl) rfl (BY hz1)) ?_;refine Al ?_;refine Sf ?_;refine Y0<|Y1 ?_;refine Wq Ao ?_;refine Wq (Af (BX (AE M z z z))) ?_;refine Y0<|AWp.block<|Y1 ?_;refine Wq Ak ?_;refine Wa<|Y0 ?_;refine Ct ?_;refine Y1<|Wa<|Wa<|Y0 ?_;apply As;apply Bk;apply Bk;apply AM;apply CR;apply Bk;apply AM
      exact AT (BG (ResV.tmp rfl rfl) (ResV.tmp rfl rfl) (Bu (Cc) (D.le.refl _)))
     ·have hs : (AE M z z z).num.sign = 0 := by rw [hneg]; rfl
      apply Y1;refine Wq Ak ?_;refine Y0<|Ac ?_;refine Ct ?_;refine Ys<|Ac<|AWp.block<|Y1<|Wm<|Wa<|Y0<|Y1<|Wm<|Wm ?_;refine Wq (Ch (k:=z) (ao rfl) (ao rfl) (Aa rfl) (Aa rfl) hz1) ?_;refine Wq (Eq 0 0 (ao rfl) rfl CY (Aa rfl) rfl (CV hz1 (Nat.le_refl n))) ?_;refine Wm ?_;refine Wq (Ch (k:=z) (ao rfl) (ao rfl) (Aa rfl) (Aa rfl) hz1) ?_;refine Wq (Er 0 (z+1) (e:=⟨b z,54,BE (AE M z z) n⟩) (ao rfl) rfl (Di hz1) (Aa rfl) rfl (BY hz1)) ?_;refine Al ?_;refine Sf ?_;refine Y0<|Y1 ?_;refine Wq Ao ?_;refine Wq (Af (BX (AE M z z z))) ?_;refine Y0<|AWp.block<|Y1 ?_;refine Wq Ai ?_;refine Wa<|Y0 ?_;refine Cf ?_;apply Y1;refine Wq Ak ?_;refine Wa<|Y0 ?_;refine Ct ?_;refine Y1<|Wm<|Wm ?_;refine Wq (Ch (k:=z) (ao rfl) (ao rfl) (Aa rfl) (Aa rfl) hz1) ?_;refine Wq (Eq 0 0 (ao rfl) rfl CY (Aa rfl) rfl (CV hz1 (Nat.le_refl n))) ?_;refine Wq (Ju (ao rfl) (Aa rfl)) ?_;refine Wm<|Y0<|AWp.block ?_
      refine AJ (fun mz σ=>∃ i,i≤w∧mz = w - i∧σ = ⟨[(0,.d (Hp ms)),(6,.d (ex (.int .i64 (n:Nat)))),(7,.d (sX b0 n n)),(10,.own 1),(57,.d (ex (.int .i64 (n:Nat)))),(58,.d (ex (.int .i64 (z:Nat)))),(90,.d (sX (b z) n (c z))),(91,.d (ex (.int .i64 (n:Nat)))),(92,.d (ex (.int .i64 (i:Nat))))],[.obj (BA (DO b0 n n b c (AE M z))),.row 56 5 ((Dj ms M n z).map Yw)]⟩) ?lei ⟨0,by omega,rfl,rfl⟩ ?roundi
      case lei=>exact Aj (by exact Yd<|Yd<|Yd<|FrLe.cons rfl (AVle.own rfl)<|Yd<|Yd<|Yd<|Yd<|Yd<|FrLe.nil) (by exact HpLe.cons (OwLe.obj rfl)<|Yr<|HpLe.nil)
      case roundi =>
       rintro mz _ ⟨i,hi,rfl,rfl⟩
       by_cases hlti:i<w
       ·have hin : i < n := by omega
        have hs2:(AE M z z i).num.sign = 0:=by rw [hrow i hlti];rfl
        apply Y1;refine Wq Ak ?_;refine Y0<|Ac ?_;refine Ct ?_;refine Ys<|Ac<|AWp.block<|Y1 ?_;refine Wq (Ch (k:=i) (ao rfl) (ao rfl) (Aa rfl) (Aa rfl) hin) ?_;refine Wq (Er 0 (z+1) (e:=⟨b z,54,BE (AE M z z) n⟩) (ao rfl) rfl (Di hz1) (Aa rfl) rfl (BY hin)) ?_;refine Al ?_;refine Sf ?_;refine Y0<|Y1 ?_;refine Wq Ao ?_;refine Wq (Af (BX (AE M z z i))) ?_;refine Wq Ai ?_;apply Y0;refine Cf ?_;apply Bi;apply Ah;refine Yn<|AWp.region ?_;refine Wq AQ ?_;refine Wm ?_;apply AWl.nil
        refine ALoop.next (w - (i+1)) (by omega) ⟨i+1,by omega,rfl,rfl⟩ ?_
        exact Aj (by exact Yd<|Yd<|Yd<|FrLe.cons rfl (AVle.own rfl)<|Yd<|Yd<|Yd<|Yd<|Yd<|FrLe.nil) (by exact HpLe.cons (OwLe.obj rfl)<|Yr<|HpLe.nil)
       ·obtain rfl : w = i := by omega
        have hs2:(AE M z z w).num.sign ≠ 0:=fun e=>hbad (Dg.1 e)
        apply Y1;refine Wq Ak ?_;refine Y0<|Ac ?_;refine Ct ?_;refine Ys<|Ac<|AWp.block<|Y1 ?_;refine Wq (Ch (k:=w) (ao rfl) (ao rfl) (Aa rfl) (Aa rfl) hw) ?_;refine Wq (Er 0 (z+1) (e:=⟨b z,54,BE (AE M z z) n⟩) (ao rfl) rfl (Di hz1) (Aa rfl) rfl (BY hw)) ?_;refine Al ?_;refine Sf ?_;refine Y0<|Y1 ?_;refine Wq Ao ?_;refine Wq (Af (BX (AE M z z w))) ?_;refine Wq Ak ?_;apply Y0;refine Ct ?_;refine Y1<|Wa<|Wa<|Y0 ?_;apply As;apply Bk;apply AM;apply CR;apply Bk;apply Bk;apply Bk;apply AM;apply CR;apply Bk;apply AM
        exact AT (BG (ResV.tmp rfl rfl) (ResV.tmp rfl rfl) (Bu (Cc) (D.le.refl _)))
theorem Tw (n S:Nat) (e:Int) (ms:List (Nat→Int)) (M:Nat→Nat→Rat) (hn0:0<n) (hn:n≤100) (hl:ms.length = n) (hm:∀ m∈ms,In8 m 0 e) (he:e≤65535) (hM:∀ i j,RSz (M i j) S) (hS:Dd S n≤10000000) (hsy:∀ i,i<n→∀ j,j<i→M i j = M j i) (hok:∀ k,k<n→HI M n k):Abs Tryz.prog 17 [Hp ms,Ck n n M] (CE [FM (Dj ms M n n),ex (.int .i64 0)]) :=
 HH n S e ms M hn0 hn hl hm he hM hS hsy n (Nat.le_refl n) hok _ (.inl ⟨rfl,rfl⟩)
theorem Xj (n S:Nat) (e:Int) (ms:List (Nat→Int)) (M:Nat→Nat→Rat) (hn0:0<n) (hn:n≤100) (hl:ms.length = n) (hm:∀ m∈ms,In8 m 0 e) (he:e≤65535) (hM:∀ i j,RSz (M i j) S) (hS:Dd S n≤10000000) (hsy:∀ i,i<n→∀ j,j<i→M i j = M j i) (z:Nat) (hz1:z<n) (hok:∀ k,k<z→HI M n k) (hneg:AE M z z z<0):Abs Tryz.prog 17 [Hp ms,Ck n n M] (CE [FM [],ex (.int .i64 280)]) :=
 HH n S e ms M hn0 hn hl hm he hM hS hsy z (Nat.le_of_lt hz1) hok _ (.inr ⟨hz1,rfl,.inl hneg⟩)
theorem UD (n S:Nat) (e:Int) (ms:List (Nat→Int)) (M:Nat→Nat→Rat) (hn0:0<n) (hn:n≤100) (hl:ms.length = n) (hm:∀ m∈ms,In8 m 0 e) (he:e≤65535) (hM:∀ i j,RSz (M i j) S) (hS:Dd S n≤10000000) (hsy:∀ i,i<n→∀ j,j<i→M i j = M j i) (z:Nat) (hz1:z<n) (hok:∀ k,k<z→HI M n k) (hneg:AE M z z z = 0) (w:Nat) (hw:w<n) (hrow:∀ j,j<w→AE M z z j = 0) (hbad:AE M z z w ≠ 0):Abs Tryz.prog 17 [Hp ms,Ck n n M] (CE [FM [],ex (.int .i64 280)]) :=
 HH n S e ms M hn0 hn hl hm he hM hS hsy z (Nat.le_of_lt hz1) hok _ (.inr ⟨hz1,rfl,.inr ⟨hneg,w,hw,hrow,hbad⟩⟩)
theorem UF (r c n S:Nat) (hr:r ≠ n) (hr1:r≤100) (hc1:c≤100) (hn:n≤100) (e:Int) (ms:List (Nat→Int)) (M:Nat→Nat→Rat) (hl:ms.length = n) (hM:∀ i j,RSz (M i j) S) (hS:S≤10000000) :
  Abs Tryz.prog 17 [Hp ms,Ck r c M] (CE [FM [],ex (.int .i64 1)]):=by
 refine Ab Tryz.func17 fun s0=>?_
 rw [Tryz.ntmps17]
 refine Y1<|Wa<|Wa<|Y0<|Y1<|Wm ?_;refine Wq (BN rfl hl (Aa rfl)) ?_;refine Wa<|Y0<|Ac<|Y1<|Wm ?_;refine Wq (Af (GQ r c M S hM (by omega) (by omega) (by omega))) ?_;refine Wq Bj ?_;refine Wm ?_;refine Wg Ae ?_;refine Wg (Bl rfl (Aa rfl)) ?_;refine Wg Ae ?_;refine Wg Ak ?_;refine Wq AG ?_;refine Wm ?_;refine Ws ?_;refine Ws ?_;refine Ws ?_;refine Ws ?_;refine Ws ?_;refine Ws ?_;refine Ws ?_;refine Ws ?_;refine Ws ?_;refine Ws ?_;refine Wq AO ?_;apply Y0;refine Ct ?_;refine Y1<|Wa<|Wa<|Y0 ?_;apply As;apply AM
 exact AT (BG (ResV.tmp rfl rfl) (ResV.tmp rfl rfl) (Bu (Cc) (D.le.refl _)))
theorem Nj (c n S:Nat) (hn0:0<n) (hc:c ≠ n) (hc1:c≤100) (hn:n≤100) (e:Int) (ms:List (Nat→Int)) (M:Nat→Nat→Rat) (hl:ms.length = n) (hM:∀ i j,RSz (M i j) S) (hS:S≤10000000) :
  Abs Tryz.prog 17 [Hp ms,Ck n c M] (CE [FM [],ex (.int .i64 1)]):=by
 refine Ab Tryz.func17 fun s0=>?_
 rw [Tryz.ntmps17]
 refine Y1<|Wa<|Wa<|Y0<|Y1<|Wm ?_;refine Wq (BN rfl hl (Aa rfl)) ?_;refine Wa<|Y0<|Ac<|Y1<|Wm ?_;refine Wq (Af (GQ n c M S hM (by omega) (by omega) (by omega))) ?_;refine Wq Bj ?_;refine Wm ?_;refine Wg Ae ?_;refine Wg (Bl rfl (Aa rfl)) ?_;refine Wg Ae ?_;refine Wg Ai ?_;refine Wq AG ?_;refine Wm ?_;refine Wg Ae ?_;refine Wg Ak ?_;refine Wg Ae ?_;refine Wg Ae ?_;refine Wg (AC (k:=0) rfl (ao rfl) (Aa rfl) (Aa rfl) rfl hn0) ?_;refine Wg Bf ?_;refine Wg (Bl rfl (Aa rfl)) ?_;refine Wg Ae ?_;refine Wg Ak ?_;refine Wg AO ?_;refine Wq AG ?_;apply Y0;refine Ct ?_;refine Y1<|Wa<|Wa<|Y0 ?_;apply As;apply AM
 exact AT (BG (ResV.tmp rfl rfl) (ResV.tmp rfl rfl) (Bu (Cc) (D.le.refl _)))
theorem PV (n S:Nat) (hn0:0<n) (hn:n≤100) (e:Int) (ms:List (Nat→Int)) (M:Nat→Nat→Rat) (hl:ms.length = n) (hM:∀ i j,RSz (M i j) S) (hS:S≤10000000) (z w:Nat) (hz:z<n) (hw:w<z) (h:∀ i,i<z→∀ j,j<i→M i j = M j i) (h':∀ j,j<w→M z j = M j z) (hbad:M z w ≠ M w z) :
  Abs Tryz.prog 17 [Hp ms,Ck n n M] (CE [FM [],ex (.int .i64 112)]):=by
 refine Ab Tryz.func17 fun s0=>?_
 rw [Tryz.ntmps17]
 refine Y1<|Wa<|Wa<|Y0<|Y1<|Wm ?_;refine Wq (BN rfl hl (Aa rfl)) ?_;refine Wa<|Y0<|Ac<|Y1<|Wm ?_;refine Wq (Af (GQ n n M S hM (by omega) (by omega) (by omega))) ?_;refine Wq Bj ?_;refine Wm ?_;refine Wg Ae ?_;refine Wg (Bl rfl (Aa rfl)) ?_;refine Wg Ae ?_;refine Wg Ai ?_;refine Wq AG ?_;refine Wm ?_;refine Wg Ae ?_;refine Wg Ak ?_;refine Wg Ae ?_;refine Wg Ae ?_;refine Wg (AC (k:=0) rfl (ao rfl) (Aa rfl) (Aa rfl) rfl hn0) ?_;refine Wg Bf ?_;refine Wg (Bl rfl (Aa rfl)) ?_;refine Wg Ae ?_;refine Wg Ai ?_;refine Wg AO ?_;refine Wq AG ?_;apply Y0;refine Cf ?_;refine Ys<|Ac<|Y1<|Wm ?_;refine Wq (Af (Wh n M S hM (by omega) (by omega) z w hz hw h h' hbad)) ?_;refine Wq Bj ?_;apply Y0;refine Ct ?_;refine Y1<|Wa<|Wa<|Y0 ?_;apply As;apply AM
 exact AT (BG (ResV.tmp rfl rfl) (ResV.tmp rfl rfl) (Bu (Cc) (D.le.refl _)))
theorem PR (M : Nat→Nat→Rat):Abs Tryz.prog 51 [Ck 0 0 M] (ex (.bool true)):=by
 refine Ab Tryz.func51 fun s0=>?_
 rw [Tryz.ntmps51]
 refine Y1<|Wa<|Y0<|Ac<|Y1<|Wm ?_;refine Wq (Bl rfl (Aa rfl)) ?_;refine Wm<|Y0<|AWp.block ?_
 refine AJ (fun mz σ=>∃ k,k≤0∧mz = 0 - k∧σ = ⟨[(8,.d (ex (.int .i64 ((0:Nat):Int)))),(9,.d (ex (.int .i64 (k:Nat))))],[]⟩) ?le ⟨0,by omega,rfl,rfl⟩ ?round
 case le=>exact Aj (by exact Yd<|Yd<|FrLe.nil) (by exact HpLe.nil)
 case round =>
  rintro mz _ ⟨k,hk,rfl,rfl⟩
  by_cases hlt:k<0
  ·omega
  ·obtain rfl : k = 0 := by omega
   apply Y1;refine Wq Ai ?_;refine Y0<|Ac ?_;refine Cf ?_;apply AL;apply Aw;apply AD;apply Az;refine Yn<|Y1<|Wa<|Y0 ?_;apply As
   exact Yf
theorem Wi (M : Nat→Nat→Rat):Abs Tryz.prog 52 [Ck 0 0 M] (ex (.bool true)):=by
 refine Ab Tryz.func52 fun s0=>?_
 rw [Tryz.ntmps52]
 refine Y1<|Wa<|Y0<|Ac<|Y1<|Wm ?_;refine Wq (Bl rfl (Aa rfl)) ?_;refine Wm<|Y0<|AWp.block ?_
 refine AJ (fun mz σ=>∃ k,k≤0∧mz = 0 - k∧σ = ⟨[(6,.d (ex (.int .i64 ((0:Nat):Int)))),(7,.d (ex (.int .i64 (k:Nat))))],[]⟩) ?le ⟨0,by omega,rfl,rfl⟩ ?round
 case le=>exact Aj (by exact Yd<|Yd<|FrLe.nil) (by exact HpLe.nil)
 case round =>
  rintro mz _ ⟨k,hk,rfl,rfl⟩
  by_cases hlt:k<0
  ·omega
  ·obtain rfl : k = 0 := by omega
   apply Y1;refine Wq Ai ?_;refine Y0<|Ac ?_;refine Cf ?_;apply AL;apply Aw;apply AD;apply Az;refine Yn<|Y1<|Wa<|Y0 ?_;apply As
   exact Yf
theorem UE (M : Nat→Nat→Rat):Abs Tryz.prog 17 [Hp [],Ck 0 0 M] (CE [FM [],ex (.int .i64 0)]):=by
 have hl:([]:List (Nat→Int)).length = 0:=rfl
 refine Ab Tryz.func17 fun s0=>?_
 rw [Tryz.ntmps17]
 refine Y1<|Wa<|Wa<|Y0<|Y1<|Wm ?_;refine Wq (BN rfl hl (Aa rfl)) ?_;refine Wa<|Y0<|Ac<|Y1<|Wm ?_;refine Wq (Af (PR M)) ?_;refine Wq Bj ?_;refine Wm ?_;refine Wg Ae ?_;refine Wg (Bl rfl (Aa rfl)) ?_;refine Wg Ae ?_;refine Wg Ai ?_;refine Wq AG ?_;refine Wm ?_;refine Wg Ae ?_;refine Wg Ai ?_;refine Wg Ae ?_;refine Ws ?_;refine Ws ?_;refine Ws ?_;refine Ws ?_;refine Ws ?_;refine Ws ?_;refine Wg AG ?_;refine Wq AG ?_;apply Y0;refine Cf ?_;refine Ys<|Ac<|Y1<|Wm ?_;refine Wq (Af (Wi M)) ?_;refine Wq Bj ?_;apply Y0;refine Cf ?_;refine Ys<|Y1<|Wm ?_;refine TT (c:=0) (ao rfl) (ao rfl) (Aa rfl) (Aa rfl) rfl rfl (by omega) rfl rfl rfl rfl (fun g=>rfl) fun b0=>?_;refine Wa<|Y0<|Ac<|Y1<|Wm ?_;refine Wq (Bl rfl (Aa rfl)) ?_;refine Wm<|Y0<|AWp.block ?_
 refine AJ (fun mz σ=>∃ k,k≤0∧mz = 0 - k∧σ = ⟨[(6,.d (ex (.int .i64 ((0:Nat):Int)))),(44,.d (ex (.int .i64 ((0:Nat):Int)))),(45,.d (ex (.int .i64 (k:Nat))))],[]⟩) ?le ⟨0,by omega,rfl,rfl⟩ ?round
 case le=>exact Aj (by exact Yd<|Yd<|Yd<|FrLe.nil) (by exact HpLe.nil)
 case round =>
  rintro mz _ ⟨k,hk,rfl,rfl⟩
  by_cases hlt:k<0
  ·omega
  ·obtain rfl : k = 0 := by omega
   apply Y1;refine Wq Ai ?_;refine Y0<|Ac ?_;refine Cf ?_;apply AL;apply Aw;apply AD;apply Az;refine Yn<|Y1<|Wa<|Y0<|Ac<|Y1<|Wm<|Wm<|Y0<|AWp.block ?_
   refine AJ (fun mz σ=>∃ k,k≤0∧mz = 0 - k∧σ = ⟨[(10,.d (ex (.slice none 0 0))),(57,.d (ex (.int .i64 ((0:Nat):Int)))),(58,.d (ex (.int .i64 (k:Nat))))],[]⟩) ?le ⟨0,by omega,rfl,rfl⟩ ?round
   case le=>exact Aj (by exact Yd<|Yd<|Yd<|FrLe.nil) (by exact HpLe.nil)
   case round =>
    rintro mz _ ⟨k,hk,rfl,rfl⟩
    by_cases hlt:k<0
    ·omega
    ·obtain rfl : k = 0 := by omega
     apply Y1;refine Wq Ai ?_;refine Y0<|Ac ?_;refine Cf ?_;apply AL;apply Aw;apply AD;apply Az;refine Yn<|Y1<|Wm<|Wa<|Wa<|Y0 ?_;apply As
     exact AT (BG (ResV.tmp rfl rfl) (ResV.tmp rfl rfl) (Bu (Cc) (D.le.refl _)))
theorem YG (c : Rat) (m:Nat→Int):Eg c [⟨1,m⟩] = if c = 0 then [] else [⟨c,m⟩]:=by
 unfold Eg
 split
 ·rfl
 ·unfold Mv
  rw [List.map_cons,List.map_nil,Gu,Rat.mul_one]
theorem YA (ms : List (Nat→Int)) (row:Nat→Rat) (d:Rat) (h0:d ≠ 0) (j:Nat):CX (KD ms row d j) (Eg (row j / d) [⟨1,ms.getD j default⟩]) = KD ms row d (j+1):=by
 rw [YG,KD]
 by_cases h:row j = 0
 ·rw [if_pos h,h,Rat.div_def,Rat.zero_mul,if_pos rfl,KQ]
 ·rw [if_neg h,if_neg (IB h h0)]
theorem MV (n S:Nat) (e:Int) (ms:List (Nat→Int)) (M:Nat→Nat→Rat) (hn0:0<n) (hn:n≤100) (hl:ms.length = n) (hm:∀ m∈ms,In8 m 0 e) (he:e≤65535) (hM:∀ i j,RSz (M i j) S) (hS:Dd S n≤10000000) (hsy:∀ i,i<n→∀ j,j<i→M i j = M j i) (z:Nat) (hzn:z≤n) (hok:∀ k,k<z→HI M n k) (r:D) (hend:(z = n∧r = CE [FM (Dj ms M n n),ex (.int .i64 0)])∨(z<n∧r = CE [FM [],ex (.int .i64 280)]∧(AE M z z z<0∨AE M z z z = 0∧∃ w,w<n∧(∀ j,j<w→AE M z z j = 0)∧AE M z z w ≠ 0))) :
  Abs Tryz.prog 18 [Hp ms,Ck n n M] r:=by
 have hS0:S≤10000000:=Nat.le_trans (Ez S (Nat.zero_le n)) hS
 have ecol:Ns n n = n:=if_neg (by omega)
 have ccol:=Jn n n M (by omega)
 rw [ecol] at ccol
 refine Ab Tryz.func18 fun s0=>?_
 rw [Tryz.ntmps18]
 refine Y1<|Wa<|Wa<|Y0<|Ac<|Y1<|Wm ?_;refine Wq (Af (FG n n M S hM (by omega) (by omega) (by omega))) ?_;refine Wq Bj ?_;refine Wm ?_;refine Wg Ae ?_;refine Wg (Bl rfl (Aa rfl)) ?_;refine Wg Ae ?_;refine Wg (BN rfl hl (Aa rfl)) ?_;refine Wg Ai ?_;refine Wq AG ?_;refine Wm ?_;refine Wg Ae ?_;refine Wg (BN rfl hl (Aa rfl)) ?_;refine Wg Ak ?_;refine Wg Ae ?_;refine Wg Ae ?_;refine Wg (Af (ccol)) ?_;refine Wg Ae ?_;refine Wg (BN rfl hl (Aa rfl)) ?_;refine Wg Ai ?_;refine Wg AO ?_;refine Wq AG ?_;apply Y0;refine Cf ?_;refine Ys<|Ac<|Y1<|Wm ?_;refine Wq (Af (Nv n M (by omega) hsy)) ?_;refine Wq Bj ?_;apply Y0;refine Cf ?_;refine Ys<|Y1 ?_;refine CM (Aa rfl) (Aa rfl) rfl rfl rfl rfl rfl ?_;refine Wa<|Y0<|Ac<|Y1<|Wa<|Y0<|AWp.block ?_
 refine AJ (fun mz σ=>∃ k,k≤z∧mz = z - k∧σ = ⟨[(0,.d (Hp ms)),(1,.d (Ck n n (AE M k))),(6,.own 0),(7,.d (ex (.int .i64 (k:Nat))))],[.row 56 5 ((Dj ms M n k).map Yw)]⟩) ?le ⟨0,by omega,rfl,rfl⟩ ?round
 case le=>exact Aj (by exact Yd<|Yd<|FrLe.cons rfl (AVle.own rfl)<|Yd<|FrLe.nil) (by exact Yr<|HpLe.nil)
 case round =>
  rintro mz _ ⟨k,hk,rfl,rfl⟩
  by_cases hlt:k<z
  ·have hkn : k < n := by omega
   have hG:=LJ hM k
   have hL:=Ii ms M n k
   have hSk:Dd S k≤10000000:=Nat.le_trans (Ez S (show k≤n by omega)) hS
   by_cases hz:AE M k k k = 0
   ·have hs : (AE M k k k).num.sign = 0 := by rw [hz]; rfl
    have hrow:=(hok k hlt).2 hz
    have e1:AE M (k+1) = AE M k:=by rw [AE,if_pos hz]
    have e2:Dj ms M n (k+1) = Dj ms M n k:=by rw [Dj,if_pos hz]
    refine Ac<|Y1<|Wm<|Wm ?_;refine Wq (BN rfl hl (Aa rfl)) ?_;refine Wq Ak ?_;apply Y0;refine Ct ?_;refine Ys<|Ac<|AWp.block<|Y1<|Wm<|Wm ?_;refine Wq (AC (k:=k) rfl (ao rfl) (Aa rfl) (Aa rfl) rfl hkn) ?_;refine Wq Bf ?_;refine Wm ?_;refine Wq (AC (k:=k) rfl (ao rfl) (Aa rfl) (Aa rfl) rfl hkn) ?_;refine Wq At ?_;refine Al ?_;refine Sf ?_;refine Y0<|Y1 ?_;refine CM (Aa rfl) (Aa rfl) rfl rfl rfl rfl rfl ?_;refine Wa<|Y0<|Ac<|Y1<|Wa<|Y0<|AWp.block ?_
    refine AJ (fun mz σ=>∃ i,i≤n∧mz = n - i∧σ = ⟨[(0,.d (Hp ms)),(1,.d (Ck n n (AE M k))),(6,.own 0),(7,.d (ex (.int .i64 (k:Nat)))),(8,.ptr 1 0),(10,.d (ex (.int .i64 (i:Nat))))],[.row 56 5 ((Dj ms M n k).map Yw),.var 54 ((BH (AE M k k k)).map .d)]⟩) ?lei ⟨0,by omega,rfl,rfl⟩ ?roundi
    case lei=>exact Aj (by exact Yd<|Yd<|FrLe.cons rfl (AVle.own rfl)<|Yd<|Yp<|Yd<|FrLe.nil) (by exact Yr<|Yv<|HpLe.nil)
    case roundi =>
     rintro mz _ ⟨i,hi,rfl,rfl⟩
     by_cases hlti:i<n
     ·have hs2 : (AE M k k i).num.sign = 0 := by rw [hrow i hlti]; rfl
      refine Ac<|Y1<|Wm<|Wm ?_;refine Wq (BN rfl hl (Aa rfl)) ?_;refine Wq Ak ?_;apply Y0;refine Ct ?_;refine Ys<|Ac<|AWp.block<|Ac<|Y1 ?_;refine Wq Ao ?_;refine Wq (Af (Bt (AE M k k k))) ?_;refine Wq Ak ?_;refine Wm ?_;refine Wg Ae ?_;refine Wg Ae ?_;refine Wg (AC (k:=k) rfl (ao rfl) (Aa rfl) (Aa rfl) rfl hkn) ?_;refine Wg Bf ?_;refine Wg Ae ?_;refine Wg (AC (k:=i) rfl (ao rfl) (Aa rfl) (Aa rfl) rfl hlti) ?_;refine Wg At ?_;refine Wg (Af (Bt (AE M k k i))) ?_;refine Wg Ai ?_;refine Wq AO ?_;apply Y0;refine Cf ?_;refine Ys<|Y1 ?_;refine Wq Ao ?_;refine Wq (Af (Bt (AE M k k k))) ?_;refine Wq Ai ?_;apply Y0;refine Cf ?_;apply Bi;apply Ah;refine Yn<|AWp.region<|Wm ?_;refine Wq AQ ?_;refine Wa ?_;apply AWl.nil
      refine ALoop.next (n - (i+1)) (by omega) ⟨i+1,by omega,rfl,rfl⟩ ?_
      exact Aj (by exact Yd<|Yd<|FrLe.cons rfl (AVle.own rfl)<|Yd<|Yp<|Yd<|FrLe.nil) (by exact Yr<|Yv<|HpLe.nil)
     ·obtain rfl : n = i := by omega
      refine Ac<|Y1<|Wm<|Wm ?_;refine Wq (BN rfl hl (Aa rfl)) ?_;refine Wq Ai ?_;apply Y0;refine Cf ?_;apply AL;apply Aw;apply AD;apply Az;refine Yn<|Ac<|Y1 ?_;refine Wq Ao ?_;refine Wq (Af (Bt (AE M k k k))) ?_;refine Wq Ai ?_;apply Y0;refine Cf ?_;refine Ys<|Y1 ?_;refine Wq Ao ?_;refine Wq (Af (Bt (AE M k k k))) ?_;refine Wq Ai ?_;apply Y0;refine Cf ?_;apply Bi;apply Ah;refine Yn<|AWp.region<|Wm ?_;refine Wq AQ ?_;refine Wa ?_;apply AWl.nil
      refine ALoop.next (z - (k+1)) (by omega) ⟨k+1,by omega,rfl,rfl⟩ ?_
      exact Aj (by exact Yd<|FrLe.cons rfl (AVle.d (by rw [e1]))<|FrLe.cons rfl (AVle.own rfl)<|Yd<|FrLe.nil) (by exact HpLe.cons (BJ (by rw [e2]))<|HpLe.nil)
   ·have hs:(AE M k k k).num.sign = 1:=Pf (hok k hlt).1 hz
    have e1:AE M (k+1) = IW (AE M k) k:=by rw [AE,if_neg hz]
    have e2:Dj ms M n (k+1) = Dj ms M n k ++ [⟨AE M k k k,KD ms (AE M k k) (AE M k k k) n⟩]:=by rw [Dj,if_neg hz]
    refine Ac<|Y1<|Wm<|Wm ?_;refine Wq (BN rfl hl (Aa rfl)) ?_;refine Wq Ak ?_;apply Y0;refine Ct ?_;refine Ys<|Ac<|AWp.block<|Y1<|Wm<|Wm ?_;refine Wq (AC (k:=k) rfl (ao rfl) (Aa rfl) (Aa rfl) rfl hkn) ?_;refine Wq Bf ?_;refine Wm ?_;refine Wq (AC (k:=k) rfl (ao rfl) (Aa rfl) (Aa rfl) rfl hkn) ?_;refine Wq At ?_;refine Al ?_;refine Sf ?_;refine Y0<|Y1 ?_;refine CM (Aa rfl) (Aa rfl) rfl rfl rfl rfl rfl ?_;refine Wa<|Y0<|Ac<|Y1<|Wa<|Y0<|AWp.block ?_
    refine AJ (fun mz σ=>∃ i,i≤n∧mz = n - i∧σ = ⟨[(0,.d (Hp ms)),(1,.d (Ck n n (AE M k))),(6,.own 0),(7,.d (ex (.int .i64 (k:Nat)))),(8,.ptr 1 0),(9,.d (Bs (KD ms (AE M k k) (AE M k k k) i))),(10,.d (ex (.int .i64 (i:Nat))))],[.row 56 5 ((Dj ms M n k).map Yw),.var 54 ((BH (AE M k k k)).map .d)]⟩) ?lei ⟨0,by omega,rfl,rfl⟩ ?roundi
    case lei=>exact Aj (by exact Yd<|Yd<|FrLe.cons rfl (AVle.own rfl)<|Yd<|Yp<|FrLe.cons rfl (Fp rfl (D.le.refl _))<|Yd<|FrLe.nil) (by exact Yr<|Yv<|HpLe.nil)
    case roundi =>
     rintro mz _ ⟨i,hi,rfl,rfl⟩
     by_cases hlti:i<n
     ·have hb := Rl (ms := ms) hm (hG k) (hG k k) hz i (by omega)
      have hkS:i*(Dd S k+Dd S k+1)≤100*20000001:=Nat.mul_le_mul (by omega) (by omega)
      have hil:i<ms.length:=by omega
      have hmj:ms.getD i default∈ms:=by
       rw [List.getD_eq_getElem?_getD,List.getElem?_eq_getElem (by omega)]
       exact List.getElem_mem _
      have h1:PB [⟨1,ms.getD i default⟩] 1 1 e:=Lz (hm _ hmj)
      have hq:RSz (AE M k k i / AE M k k k) (Dd S k+Dd S k):=(hG k i).divQ (hG k k) hz
      have hsc:=KL h1 hq
      have e3:=YA ms (AE M k k) (AE M k k k) hz i
      refine Ac<|Y1<|Wm<|Wm ?_;refine Wq (BN rfl hl (Aa rfl)) ?_;refine Wq Ak ?_;apply Y0;refine Ct ?_;refine Ys<|Ac<|AWp.block<|Ac<|Y1 ?_;refine Wq Ao ?_;refine Wq (Af (Bt (AE M k k k))) ?_;refine Wq Ai ?_;refine Wm ?_;refine Ws ?_;refine Ws ?_;refine Ws ?_;refine Ws ?_;refine Ws ?_;refine Ws ?_;refine Ws ?_;refine Ws ?_;refine Ws ?_;refine Wq AG ?_;apply Y0;refine Cf ?_;refine Ys<|Y1 ?_;refine Wq Ao ?_;refine Wq (Af (Bt (AE M k k k))) ?_;refine Wq Ak ?_;apply Y0;refine Ct ?_;apply Ac
      refine Fj (Db (e:=11) (by kernel_rfl) (K4 (K4 (K4 (AddE.keep (AddE.add (AddE.keep AddE.nil)))))) (by kernel_rfl)) [[],[],[(77,0),(78,1)],[(79,2)],[],[(80,3),(81,4)],[(82,5)],[],[(83,6),(84,7)],[(85,8)],[(76,9)],[(76,9)],[]] [[],[],[0,1],[0,1,2],[],[0,1,2,3,4],[0,1,2,3,4,5],[],[0,1,2,3,4,5,6,7],[0,1,2,3,4,5,6,7,8],[0,1,2,3,4,5,6,7,8,9],[0,1,2,3,4,5,6,7,8,9],[]] rfl (by kernel_rfl) (by kernel_rfl) (by kernel_rfl) ?_
      refine Xq Ae ?_;refine Xq Ae ?_;refine Xq (AC (k:=k) rfl (ah rfl) (Aa rfl) (Aa rfl) rfl hkn) ?_;refine Xq Bf ?_;refine Xq Ae ?_;refine Xq (AC (k:=i) rfl (ah rfl) (Aa rfl) (Aa rfl) rfl hlti) ?_;refine Xq At ?_;refine Xq Ao ?_;refine Xq (Af (NA (AE M k k i) (AE M k k k) (Dd S k) (Dd S k) (hG k i) (hG k k) (by omega) (Ex hz))) ?_;refine Xq Ae ?_;refine Xq Ba ?_;refine Xq Ba ?_;refine Xn ?_;refine ⟨_,rfl,?_⟩
      refine Sf ?_;refine Wa ?_;apply AWl.nil;apply OnlyN.mk';apply Yn
      refine Dr [[],[],[],[],[],[(91,3),(92,4)],[(93,5)],[(90,2),(94,6)],[(95,7)],[(89,1),(96,8)],[(88,0),(97,9)]] [[],[],[],[],[],[3,4],[3,4,5],[2,3,4,5,6],[2,3,4,5,6,7],[1,2,3,4,5,6,7,8],[0,1,2,3,4,5,6,7,8,9]] ?_
      refine Xq Ae ?_;refine Xq Ao ?_;refine Xq (Af (BF 1 (by omega) (by omega))) ?_;refine Xq Ae ?_;refine Xq Ae ?_;refine Xq AK ?_;refine Xq At ?_;(refine Hq rfl ?_;refine BK (Aa rfl) rfl rfl rfl ?_;(repeat ((first | refine ⟨_,AH (ah rfl),?_⟩ | refine ⟨_,Po rfl,?_⟩);refine ⟨_,rfl,?_⟩));refine ⟨_,rfl,?_⟩;refine ⟨_,rfl,?_⟩);(refine Xq (Bv (ah rfl) (Aa rfl) (Aa rfl) rfl rfl rfl rfl rfl) ?_);refine Xq (Af (FI (AE M k k i / AE M k k k) [⟨1,ms.getD i default⟩] (Dd S k+Dd S k) 1 hq h1.sz (h1.ex.mono (Int.le_refl _) he) (by simp) (by omega))) ?_;refine Xq (Af (KV hb hsc (by omega) (by omega))) ?_;refine ⟨_,rfl,?_⟩
      refine Wa ?_;apply AWl.nil;apply Ah;refine Yn<|AWp.region<|Wm ?_;refine Wq AQ ?_;refine Wa ?_;apply AWl.nil
      refine ALoop.next (n - (i+1)) (by omega) ⟨i+1,by omega,rfl,rfl⟩ ?_
      exact Aj (by exact Yd<|Yd<|FrLe.cons rfl (AVle.own rfl)<|Yd<|Yp<|FrLe.cons rfl (AVle.le (CH e3))<|Yd<|FrLe.nil) (by exact Yr<|Yv<|HpLe.nil)
     ·obtain rfl : n = i := by omega
      refine Ac<|Y1<|Wm<|Wm ?_;refine Wq (BN rfl hl (Aa rfl)) ?_;refine Wq Ai ?_;apply Y0;refine Cf ?_;apply AL;apply Aw;apply AD;apply Az;refine Yn<|Ac<|Y1 ?_;refine Wq Ao ?_;refine Wq (Af (Bt (AE M k k k))) ?_;refine Wq Ai ?_;apply Y0;refine Cf ?_;refine Ys<|Y1 ?_;refine Wq Ao ?_;refine Wq (Af (Bt (AE M k k k))) ?_;refine Wq Ak ?_;apply Y0;refine Ct ?_;refine Y1<|Wm ?_;refine Wq Ao ?_;refine Wm ?_;(refine BO rfl rfl ?_;(refine BK (Aa rfl) rfl rfl rfl ?_;(repeat ((first | refine ⟨_,AH (ao rfl),?_⟩ | refine ⟨_,Po rfl,?_⟩);refine ⟨_,rfl,?_⟩));refine ⟨_,rfl,?_⟩));refine Wq (Bv (ao rfl) (Aa rfl) (Aa rfl) rfl rfl rfl rfl rfl) ?_;(refine Ap ?_);refine Wa<|Y0<|AWp.region<|Wm<|Wm ?_;refine Wq (Af (Qi n k (Dd S k) (AE M k) hkn hn hG hSk hz)) ?_;refine Wa ?_;apply AWl.nil;apply Ah;refine Yn<|AWp.region<|Wm ?_;refine Wq AQ ?_;refine Wa ?_;apply AWl.nil
      refine ALoop.next (z - (k+1)) (by omega) ⟨k+1,by omega,rfl,rfl⟩ ?_
      exact Aj (by exact Yd<|FrLe.cons rfl (AVle.d (by rw [e1]))<|FrLe.cons rfl (AVle.own rfl)<|Yd<|FrLe.nil) (by (refine HpLe.cons (BJ (by rw [e2,List.map_append];rfl)) ?_);exact HpLe.nil)
  ·obtain rfl : z = k := by omega
   rcases hend with ⟨rfl,rfl⟩ | ⟨hz1,rfl,hneg | ⟨hneg,w,hw,hrow,hbad⟩⟩
   ·refine Ac<|Y1<|Wm<|Wm ?_;refine Wq (BN rfl hl (Aa rfl)) ?_;refine Wq Ai ?_;apply Y0;refine Cf ?_;apply AL;apply Aw;apply AD;apply Az;refine Yn<|Y1<|Wm<|Wa<|Wa<|Y0 ?_;apply As
    exact AT (BG (ResV.tmp rfl rfl) (ResV.tmp rfl rfl) (Bu (D.le.refl _) (D.le.refl _)))
   ·have hs:(AE M z z z).num.sign = -1:=Pg hneg
    refine Ac<|Y1<|Wm<|Wm ?_;refine Wq (BN rfl hl (Aa rfl)) ?_;refine Wq Ak ?_;apply Y0;refine Ct ?_;refine Ys<|Ac<|AWp.block<|Y1<|Wm<|Wm ?_;refine Wq (AC (k:=z) rfl (ao rfl) (Aa rfl) (Aa rfl) rfl hz1) ?_;refine Wq Bf ?_;refine Wm ?_;refine Wq (AC (k:=z) rfl (ao rfl) (Aa rfl) (Aa rfl) rfl hz1) ?_;refine Wq At ?_;refine Al ?_;refine Sf ?_;refine Y0<|Y1 ?_;refine CM (Aa rfl) (Aa rfl) rfl rfl rfl rfl rfl ?_;refine Wa<|Y0<|Ac<|Y1<|Wa<|Y0<|AWp.block ?_
    refine AJ (fun mz σ=>∃ i,i≤n∧mz = n - i∧σ = ⟨[(0,.d (Hp ms)),(1,.d (Ck n n (AE M z))),(8,.ptr 1 0),(10,.d (ex (.int .i64 (i:Nat))))],[.dead,.var 54 ((BH (AE M z z z)).map .d)]⟩) ?lei ⟨0,by omega,rfl,rfl⟩ ?roundi
    case lei=>exact Aj (by exact Yd<|Yd<|Yp<|Yd<|FrLe.nil) (by exact HpLe.cons (OwLe.dead)<|Yv<|HpLe.nil)
    case roundi =>
     rintro mz _ ⟨i,hi,rfl,rfl⟩
     by_cases hlti:i<n
     ·refine Ac<|Y1<|Wm<|Wm ?_;refine Wq (BN rfl hl (Aa rfl)) ?_;refine Wq Ak ?_;apply Y0;refine Ct ?_;refine Ys<|Ac<|AWp.block<|Ac<|Y1 ?_;refine Wq Ao ?_;refine Wq (Af (Bt (AE M z z z))) ?_;refine Wq Ai ?_;refine Wm ?_;refine Ws ?_;refine Ws ?_;refine Ws ?_;refine Ws ?_;refine Ws ?_;refine Ws ?_;refine Ws ?_;refine Ws ?_;refine Ws ?_;refine Wq AG ?_;apply Y0;refine Cf ?_;refine Ys<|Y1 ?_;refine Wq Ao ?_;refine Wq (Af (Bt (AE M z z z))) ?_;refine Wq Ai ?_;apply Y0;refine Cf ?_;apply Bi;apply Ah;refine Yn<|AWp.region<|Wm ?_;refine Wq AQ ?_;refine Wa ?_;apply AWl.nil
      refine ALoop.next (n - (i+1)) (by omega) ⟨i+1,by omega,rfl,rfl⟩ ?_
      exact Aj (by exact Yd<|Yd<|Yp<|Yd<|FrLe.nil) (by exact HpLe.cons (OwLe.dead)<|Yv<|HpLe.nil)
     ·obtain rfl : n = i := by omega
      refine Ac<|Y1<|Wm<|Wm ?_;refine Wq (BN rfl hl (Aa rfl)) ?_;refine Wq Ai ?_;apply Y0;refine Cf ?_;apply AL;apply Aw;apply AD;apply Az;refine Yn<|Ac<|Y1 ?_;refine Wq Ao ?_;refine Wq (Af (Bt (AE M z z z))) ?_;refine Wq Ak ?_;apply Y0;refine Ct ?_;refine Y1<|Wa<|Wa<|Y0 ?_;apply As;apply AM;apply Bk;apply AM;apply CR;apply Bk;apply AM
      exact AT (BG (ResV.tmp rfl rfl) (ResV.tmp rfl rfl) (Bu (Cc) (D.le.refl _)))
   ·have hs : (AE M z z z).num.sign = 0 := by rw [hneg]; rfl
    refine Ac<|Y1<|Wm<|Wm ?_;refine Wq (BN rfl hl (Aa rfl)) ?_;refine Wq Ak ?_;apply Y0;refine Ct ?_;refine Ys<|Ac<|AWp.block<|Y1<|Wm<|Wm ?_;refine Wq (AC (k:=z) rfl (ao rfl) (Aa rfl) (Aa rfl) rfl hz1) ?_;refine Wq Bf ?_;refine Wm ?_;refine Wq (AC (k:=z) rfl (ao rfl) (Aa rfl) (Aa rfl) rfl hz1) ?_;refine Wq At ?_;refine Al ?_;refine Sf ?_;refine Y0<|Y1 ?_;refine CM (Aa rfl) (Aa rfl) rfl rfl rfl rfl rfl ?_;refine Wa<|Y0<|Ac<|Y1<|Wa<|Y0<|AWp.block ?_
    refine AJ (fun mz σ=>∃ i,i≤w∧mz = w - i∧σ = ⟨[(0,.d (Hp ms)),(1,.d (Ck n n (AE M z))),(7,.d (ex (.int .i64 (z:Nat)))),(8,.ptr 1 0),(10,.d (ex (.int .i64 (i:Nat))))],[.dead,.var 54 ((BH (AE M z z z)).map .d)]⟩) ?lei ⟨0,by omega,rfl,rfl⟩ ?roundi
    case lei=>exact Aj (by exact Yd<|Yd<|Yd<|Yp<|Yd<|FrLe.nil) (by exact HpLe.cons (OwLe.dead)<|Yv<|HpLe.nil)
    case roundi =>
     rintro mz _ ⟨i,hi,rfl,rfl⟩
     by_cases hlti:i<w
     ·have hin : i < n := by omega
      have hs2:(AE M z z i).num.sign = 0:=by rw [hrow i hlti];rfl
      refine Ac<|Y1<|Wm<|Wm ?_;refine Wq (BN rfl hl (Aa rfl)) ?_;refine Wq Ak ?_;apply Y0;refine Ct ?_;refine Ys<|Ac<|AWp.block<|Ac<|Y1 ?_;refine Wq Ao ?_;refine Wq (Af (Bt (AE M z z z))) ?_;refine Wq Ak ?_;refine Wm ?_;refine Wg Ae ?_;refine Wg Ae ?_;refine Wg (AC (k:=z) rfl (ao rfl) (Aa rfl) (Aa rfl) rfl hz1) ?_;refine Wg Bf ?_;refine Wg Ae ?_;refine Wg (AC (k:=i) rfl (ao rfl) (Aa rfl) (Aa rfl) rfl hin) ?_;refine Wg At ?_;refine Wg (Af (Bt (AE M z z i))) ?_;refine Wg Ai ?_;refine Wq AO ?_;apply Y0;refine Cf ?_;refine Ys<|Y1 ?_;refine Wq Ao ?_;refine Wq (Af (Bt (AE M z z z))) ?_;refine Wq Ai ?_;apply Y0;refine Cf ?_;apply Bi;apply Ah;refine Yn<|AWp.region<|Wm ?_;refine Wq AQ ?_;refine Wa ?_;apply AWl.nil
      refine ALoop.next (w - (i+1)) (by omega) ⟨i+1,by omega,rfl,rfl⟩ ?_
      exact Aj (by exact Yd<|Yd<|Yd<|Yp<|Yd<|FrLe.nil) (by exact HpLe.cons (OwLe.dead)<|Yv<|HpLe.nil)
     ·obtain rfl : w = i := by omega
      have hs2:(AE M z z w).num.sign ≠ 0:=fun e=>hbad (Dg.1 e)
      refine Ac<|Y1<|Wm<|Wm ?_;refine Wq (BN rfl hl (Aa rfl)) ?_;refine Wq Ak ?_;apply Y0;refine Ct ?_;refine Ys<|Ac<|AWp.block<|Ac<|Y1 ?_;refine Wq Ao ?_;refine Wq (Af (Bt (AE M z z z))) ?_;refine Wq Ak ?_;refine Wm ?_;refine Wg Ae ?_;refine Wg Ae ?_;refine Wg (AC (k:=z) rfl (ao rfl) (Aa rfl) (Aa rfl) rfl hz1) ?_;refine Wg Bf ?_;refine Wg Ae ?_;refine Wg (AC (k:=w) rfl (ao rfl) (Aa rfl) (Aa rfl) rfl hw) ?_;refine Wg At ?_;refine Wg (Af (Bt (AE M z z w))) ?_;refine Wg Ak ?_;refine Wq AO ?_;apply Y0;refine Ct ?_;refine Y1<|Wa<|Wa<|Y0 ?_;apply As;apply AM;apply Bk;apply AM;apply CR;apply Bk;apply AM;apply Bk;apply AM;apply CR;apply Bk;apply AM
      exact AT (BG (ResV.tmp rfl rfl) (ResV.tmp rfl rfl) (Bu (Cc) (D.le.refl _)))
theorem Rx (r c n S:Nat) (hr:r ≠ n) (hr1:r≤100) (hc1:c≤100) (hn:n≤100) (ms:List (Nat→Int)) (M:Nat→Nat→Rat) (hl:ms.length = n) (hM:∀ i j,RSz (M i j) S) (hS:S≤10000000) :
  Abs Tryz.prog 18 [Hp ms,Ck r c M] (CE [FM [],ex (.int .i64 1)]):=by
 refine Ab Tryz.func18 fun s0=>?_
 rw [Tryz.ntmps18]
 refine Y1<|Wa<|Wa<|Y0<|Ac<|Y1<|Wm ?_;refine Wq (Af (FG r c M S hM (by omega) (by omega) (by omega))) ?_;refine Wq Bj ?_;refine Wm ?_;refine Wg Ae ?_;refine Wg (Bl rfl (Aa rfl)) ?_;refine Wg Ae ?_;refine Wg (BN rfl hl (Aa rfl)) ?_;refine Wg Ak ?_;refine Wq AG ?_;refine Wm ?_;refine Ws ?_;refine Ws ?_;refine Ws ?_;refine Ws ?_;refine Ws ?_;refine Ws ?_;refine Ws ?_;refine Ws ?_;refine Ws ?_;refine Ws ?_;refine Wq AO ?_;apply Y0;refine Ct ?_;refine Y1<|Wa<|Wa<|Y0 ?_;apply As;apply AM
 exact AT (BG (ResV.tmp rfl rfl) (ResV.tmp rfl rfl) (Bu (Cc) (D.le.refl _)))
theorem Rw (c n S:Nat) (hn0:0<n) (hc:c ≠ n) (hc1:c≤100) (hn:n≤100) (ms:List (Nat→Int)) (M:Nat→Nat→Rat) (hl:ms.length = n) (hM:∀ i j,RSz (M i j) S) (hS:S≤10000000) :
  Abs Tryz.prog 18 [Hp ms,Ck n c M] (CE [FM [],ex (.int .i64 1)]):=by
 have ecol:Ns n c = c:=if_neg (by omega)
 have ccol:=Jn n c M (by omega)
 rw [ecol] at ccol
 refine Ab Tryz.func18 fun s0=>?_
 rw [Tryz.ntmps18]
 refine Y1<|Wa<|Wa<|Y0<|Ac<|Y1<|Wm ?_;refine Wq (Af (FG n c M S hM (by omega) (by omega) (by omega))) ?_;refine Wq Bj ?_;refine Wm ?_;refine Wg Ae ?_;refine Wg (Bl rfl (Aa rfl)) ?_;refine Wg Ae ?_;refine Wg (BN rfl hl (Aa rfl)) ?_;refine Wg Ai ?_;refine Wq AG ?_;refine Wm ?_;refine Wg Ae ?_;refine Wg (BN rfl hl (Aa rfl)) ?_;refine Wg Ak ?_;refine Wg Ae ?_;refine Wg Ae ?_;refine Wg (Af (ccol)) ?_;refine Wg Ae ?_;refine Wg (BN rfl hl (Aa rfl)) ?_;refine Wg Ak ?_;refine Wg AO ?_;refine Wq AG ?_;apply Y0;refine Ct ?_;refine Y1<|Wa<|Wa<|Y0 ?_;apply As;apply AM
 exact AT (BG (ResV.tmp rfl rfl) (ResV.tmp rfl rfl) (Bu (Cc) (D.le.refl _)))
theorem Uh (n S:Nat) (hn0:0<n) (hn:n≤100) (ms:List (Nat→Int)) (M:Nat→Nat→Rat) (hl:ms.length = n) (hM:∀ i j,RSz (M i j) S) (hS:S≤10000000) (z w:Nat) (hz:z<n) (hw:w<z) (h:∀ i,i<z→∀ j,j<i→M i j = M j i) (h':∀ j,j<w→M z j = M j z) (hbad:M z w ≠ M w z) :
  Abs Tryz.prog 18 [Hp ms,Ck n n M] (CE [FM [],ex (.int .i64 112)]):=by
 have ecol:Ns n n = n:=if_neg (by omega)
 have ccol:=Jn n n M (by omega)
 rw [ecol] at ccol
 refine Ab Tryz.func18 fun s0=>?_
 rw [Tryz.ntmps18]
 refine Y1<|Wa<|Wa<|Y0<|Ac<|Y1<|Wm ?_;refine Wq (Af (FG n n M S hM (by omega) (by omega) (by omega))) ?_;refine Wq Bj ?_;refine Wm ?_;refine Wg Ae ?_;refine Wg (Bl rfl (Aa rfl)) ?_;refine Wg Ae ?_;refine Wg (BN rfl hl (Aa rfl)) ?_;refine Wg Ai ?_;refine Wq AG ?_;refine Wm ?_;refine Wg Ae ?_;refine Wg (BN rfl hl (Aa rfl)) ?_;refine Wg Ak ?_;refine Wg Ae ?_;refine Wg Ae ?_;refine Wg (Af (ccol)) ?_;refine Wg Ae ?_;refine Wg (BN rfl hl (Aa rfl)) ?_;refine Wg Ai ?_;refine Wg AO ?_;refine Wq AG ?_;apply Y0;refine Cf ?_;refine Ys<|Ac<|Y1<|Wm ?_;refine Wq (Af (Vf n M (by omega) z w hz hw h h' hbad)) ?_;refine Wq Bj ?_;apply Y0;refine Ct ?_;refine Y1<|Wa<|Wa<|Y0 ?_;apply As;apply AM
 exact AT (BG (ResV.tmp rfl rfl) (ResV.tmp rfl rfl) (Bu (Cc) (D.le.refl _)))
theorem Rv (M : Nat→Nat→Rat) (hM:∀ i j,RSz (M i j) 10):Abs Tryz.prog 18 [Hp [],Ck 0 0 M] (CE [FM [],ex (.int .i64 0)]):=by
 have hl:([]:List (Nat→Int)).length = 0:=rfl
 refine Ab Tryz.func18 fun s0=>?_
 rw [Tryz.ntmps18]
 refine Y1<|Wa<|Wa<|Y0<|Ac<|Y1<|Wm ?_;refine Wq (Af (FG 0 0 M 10 hM (by omega) (by omega) (by omega))) ?_;refine Wq Bj ?_;refine Wm ?_;refine Wg Ae ?_;refine Wg (Bl rfl (Aa rfl)) ?_;refine Wg Ae ?_;refine Wg (BN rfl hl (Aa rfl)) ?_;refine Wg Ai ?_;refine Wq AG ?_;refine Wm ?_;refine Wg Ae ?_;refine Wg (BN rfl hl (Aa rfl)) ?_;refine Wg Ai ?_;refine Wg Ae ?_;refine Ws ?_;refine Ws ?_;refine Ws ?_;refine Ws ?_;refine Ws ?_;refine Wg AG ?_;refine Wq AG ?_;apply Y0;refine Cf ?_;refine Ys<|Ac<|Y1<|Wm ?_;refine Wq (Af (Nv 0 M (by omega) (fun i hi=>absurd hi (Nat.not_lt_zero i)))) ?_;refine Wq Bj ?_;apply Y0;refine Cf ?_;refine Ys<|Y1 ?_;refine CM (Aa rfl) (Aa rfl) rfl rfl rfl rfl rfl ?_;refine Wa<|Y0<|Ac<|Y1<|Wa<|Y0<|AWp.block ?_
 refine AJ (fun mz σ=>∃ k,k≤0∧mz = 0 - k∧σ = ⟨[(0,.d (Hp [])),(6,.own 0),(7,.d (ex (.int .i64 (k:Nat))))],[.row 56 5 []]⟩) ?le ⟨0,by omega,rfl,rfl⟩ ?round
 case le=>exact Aj (by exact Yd<|FrLe.cons rfl (AVle.own rfl)<|Yd<|FrLe.nil) (by exact Yr<|HpLe.nil)
 case round =>
  rintro mz _ ⟨k,hk,rfl,rfl⟩
  by_cases hlt:k<0
  ·omega
  ·obtain rfl : k = 0 := by omega
   refine Ac<|Y1<|Wm<|Wm ?_;refine Wq (BN rfl hl (Aa rfl)) ?_;refine Wq Ai ?_;apply Y0;refine Cf ?_;apply AL;apply Aw;apply AD;apply Az;refine Yn<|Y1<|Wm<|Wa<|Wa<|Y0 ?_;apply As
   exact AT (BG (ResV.tmp rfl rfl) (ResV.tmp rfl rfl) (Bu (D.le.refl _) (D.le.refl _)))
theorem HM (p : Nat→Prop):∀ n,(∀ k,k<n→p k)∨∃ z,z<n∧(∀ k,k<z→p k)∧¬ p z
 | 0=>.inl fun k h=>absurd h (Nat.not_lt_zero k)
 | n+1=>by
  rcases HM p n with h | ⟨z,h1,h2,h3⟩
  ·rcases Classical.em (p n) with hn | hn
   ·refine .inl fun k hk=>?_
    rcases Nat.lt_or_ge k n with h' | h'
    ·exact h k h'
    ·obtain rfl : k = n := by omega
     exact hn
   ·exact .inr ⟨n,by omega,h,hn⟩
  ·exact .inr ⟨z,by omega,h2,h3⟩
theorem Ih (r c n:Nat) (ms:List (Nat→Int)) (M:Nat→Nat→Rat) (hr:r≤4) (hc:c≤4) (hn:n≤4) (hl:ms.length = n) (hm:∀ m∈ms,In8 m 0 1) (hM:∀ i j,RSz (M i j) 10):∃ (L:List Sq) (e:Int),L.length≤4∧Abs Tryz.prog 17 [Hp ms,Ck r c M] (CE [FM L,ex (.int .i64 e)])∧Abs Tryz.prog 18 [Hp ms,Ck r c M] (CE [FM L,ex (.int .i64 e)]):=by
 by_cases h1:r = n
 ·subst h1
  by_cases h0:r = 0
  ·subst h0
   obtain rfl:ms = []:=List.eq_nil_of_length_eq_zero hl
   exact ⟨[],0,by decide,UE M,Rv M hM⟩
  ·have hr0 : 0 < r := by omega
   by_cases h2:c = r
   ·subst h2
    have hS:Dd 10 c≤10000000:=Nat.le_trans (Ez 10 hr) (by decide)
    rcases HM (fun i=>∀ j,j<i→M i j = M j i) c with hs | ⟨z,hz,hz1,hz2⟩
    ·rcases HM (HI M c) c with ho | ⟨z,hz,hz1,hz2⟩
     ·exact ⟨_,0,Nat.le_trans (Ii ms M c c) hr,HH c 10 1 ms M hr0 (by omega) hl hm (by omega) hM hS hs c (Nat.le_refl c) ho _ (.inl ⟨rfl,rfl⟩),MV c 10 1 ms M hr0 (by omega) hl hm (by omega) hM hS hs c (Nat.le_refl c) ho _ (.inl ⟨rfl,rfl⟩)⟩
     ·have hbad:AE M z z z<0∨AE M z z z = 0∧∃ w,w<c∧(∀ j,j<w→AE M z z j = 0)∧AE M z z w ≠ 0:=by
       by_cases hn:0≤AE M z z z
       ·rcases HM (fun j=>AE M z z j = 0) c with hj | ⟨w,hw,hw1,hw2⟩
        ·exact absurd ⟨hn,fun _=>hj⟩ hz2
        ·refine .inr ⟨Classical.byContradiction fun hne=>hz2 ⟨hn,fun e=>absurd e hne⟩,w,hw,hw1,hw2⟩
       ·exact .inl (Rat.not_le.1 hn)
      exact ⟨[],280,by decide,HH c 10 1 ms M hr0 (by omega) hl hm (by omega) hM hS hs z (Nat.le_of_lt hz) hz1 _ (.inr ⟨hz,rfl,hbad⟩),MV c 10 1 ms M hr0 (by omega) hl hm (by omega) hM hS hs z (Nat.le_of_lt hz) hz1 _ (.inr ⟨hz,rfl,hbad⟩)⟩
    ·rcases HM (fun j=>M z j = M j z) z with hj | ⟨w,hw,hw1,hw2⟩
     ·exact absurd hj hz2
     ·exact ⟨[],112,by decide,PV c 10 hr0 (by omega) 1 ms M hl hM (by omega) z w hz hw hz1 hw1 hw2,Uh c 10 hr0 (by omega) ms M hl hM (by omega) z w hz hw hz1 hw1 hw2⟩
   ·exact ⟨[],1,by decide,Nj c r 10 hr0 h2 (by omega) (by omega) 1 ms M hl hM (by omega),Rw c r 10 hr0 h2 (by omega) (by omega) ms M hl hM (by omega)⟩
 ·exact ⟨[],1,by decide,UF r c n 10 h1 (by omega) (by omega) (by omega) 1 ms M hl hM (by omega),Rx r c n 10 h1 (by omega) (by omega) (by omega) ms M hl hM (by omega)⟩
def PK : List (Nat→Int):=[fun _=>0,Gv 0,Gv 1,fun i=>if i<2 then 1 else 0]
def lS (o : Nat):Nat→List (Nat→Int)
 | 0=>PK
 | k+1=>(lS o k).take (o % (lS o k).length) ++ (lS o k).drop (o % (lS o k).length+1)
def oS (o : Nat):Nat→List (Nat→Int)
 | 0=>[]
 | k+1=>oS o k ++ [(lS o k).getD (o % (lS o k).length) default]
theorem JU (o : Nat):∀ k,k≤4→(lS o k).length = 4 - k
 | 0,_=>rfl
 | k+1,h=>by
  have ih:=JU o k (by omega)
  have hm:o % (lS o k).length<(lS o k).length:=Nat.mod_lt _ (by omega)
  rw [lS,List.length_append,List.length_take,List.length_drop]
  omega
theorem Id (o : Nat):∀ k,(oS o k).length = k
 | 0=>rfl
 | k+1=>by rw [oS,List.length_append,Id o k];rfl
theorem RO (o : Nat):∀ k,∀ m∈lS o k,m∈PK
 | 0,m,h=>h
 | k+1,m,h=>by
  rw [lS] at h
  rcases List.mem_append.1 h with h | h
  ·exact RO o k m (List.mem_of_mem_take h)
  ·exact RO o k m (List.mem_of_mem_drop h)
theorem WO (o : Nat):∀ k,k≤4→∀ m∈oS o k,m∈PK
 | 0,_,m,h=>by cases h
 | k+1,hk,m,h=>by
  rw [oS] at h
  rcases List.mem_append.1 h with h | h
  ·exact WO o k (by omega) m h
  ·rw [List.mem_singleton.1 h]
   have hl:=JU o k (by omega)
   have hm:o % (lS o k).length<(lS o k).length:=Nat.mod_lt _ (by omega)
   apply RO o k
   rw [List.getD_eq_getElem?_getD,List.getElem?_eq_getElem hm]
   exact List.getElem_mem _
theorem WU : ∀ m∈PK,In8 m 0 1:=fun m hm=>by
 simp only [PK,List.mem_cons,List.not_mem_nil,or_false] at hm
 rcases hm with rfl | rfl | rfl | rfl
 ·exact fun i _=>⟨Int.le_refl _,Int.zero_le_ofNat 1⟩
 ·exact Hs
 ·exact Hs
 ·intro i _
  show 0≤(if i<2 then (1:Int) else 0)∧(if i<2 then (1:Int) else 0)≤1
  split <;> omega
theorem ZQ (o k:Nat) (hk:k≤4):∀ m∈oS o k,In8 m 0 1:=fun m hm=>WU m (WO o k hk m hm)
theorem Nd (o n:Nat) (ho:o<256) (hn:n≤4):Abs Tryz.prog 16 [ex (.int .u8 (o:Nat)),ex (.int .i64 (n:Nat))] (Hp (oS o n)):=by
 refine Ab Tryz.func16 fun s0=>?_
 rw [Tryz.ntmps16]
 refine Y1<|Wa<|Y0<|Y1 ?_;(refine BO rfl rfl ?_;(refine ER (Aa rfl) (Aa rfl) rfl rfl ?_;(repeat ((first | refine ⟨_,AH (ao rfl),?_⟩ | refine ⟨_,Po rfl,?_⟩);refine ⟨_,rfl,?_⟩));refine ⟨_,rfl,?_⟩));(refine BO rfl rfl ?_;(refine ER (Aa rfl) (Aa rfl) rfl rfl ?_;(repeat ((first | refine ⟨_,AH (ao rfl),?_⟩ | refine ⟨_,Po rfl,?_⟩);refine ⟨_,rfl,?_⟩));refine ⟨_,rfl,?_⟩));(refine BO rfl rfl ?_;(refine ER (Aa rfl) (Aa rfl) rfl rfl ?_;(repeat ((first | refine ⟨_,AH (ao rfl),?_⟩ | refine ⟨_,Po rfl,?_⟩);refine ⟨_,rfl,?_⟩));refine ⟨_,rfl,?_⟩));(refine BO rfl rfl ?_;(refine ER (Aa rfl) (Aa rfl) rfl rfl ?_;(repeat ((first | refine ⟨_,AH (ao rfl),?_⟩ | refine ⟨_,Po rfl,?_⟩);refine ⟨_,rfl,?_⟩));refine ⟨_,rfl,?_⟩));(refine BO rfl rfl ?_;(refine Cw (Aa rfl) (Aa rfl) rfl rfl rfl rfl rfl ?_;(repeat ((first | refine ⟨_,AH (ao rfl),?_⟩ | refine ⟨_,Po rfl,?_⟩);refine ⟨_,rfl,?_⟩));refine ⟨_,rfl,?_⟩));refine Wa<|Y0<|Y1 ?_;refine CM (Aa rfl) (Aa rfl) rfl rfl rfl rfl rfl ?_;refine Wa<|Y0<|Ac<|Y1<|Wa<|Y0<|AWp.block ?_
 refine AJ (fun mz σ=>∃ k,k≤n∧mz = n - k∧σ = ⟨[(0,.d (ex (.int .u8 (o:Nat)))),(1,.d (ex (.int .i64 (n:Nat)))),(5,.d (Hp (lS o k))),(6,.own 0),(7,.d (ex (.int .i64 (k:Nat))))],[.row 70 8 ((oS o k).map Cv)]⟩) ?le ⟨0,by omega,rfl,rfl⟩ ?round
 case le=>exact Aj (by exact Yd<|Yd<|Yd<|FrLe.cons rfl (AVle.own rfl)<|Yd<|FrLe.nil) (by exact Yr<|HpLe.nil)
 case round =>
  rintro mz _ ⟨k,hk,rfl,rfl⟩
  by_cases hlt:k<n
  ·have hl := JU o k (by omega)
   have hol:=Id o k
   have hm:o % (lS o k).length<(lS o k).length:=Nat.mod_lt _ (by omega)
   have hr0:(0:Int)≤(o:Int) % ((lS o k).length:Int):=Int.emod_nonneg _ (by omega)
   have hr1:(o:Int) % ((lS o k).length:Int)<((lS o k).length:Int):=Int.emod_lt_of_pos _ (by omega)
   refine Ac<|Y1<|Wm<|Wm ?_;refine Wq Ak ?_;refine Wm ?_;refine Wg Ae ?_;refine Wg Ak ?_;refine Wq AO ?_;apply Y0;refine Ct ?_;refine Ys<|Ac<|AWp.block<|Y1<|Wm ?_;refine Wq Bh ?_;refine Wm ?_;refine Wq AR ?_;refine Wq BU ?_;refine Wa<|Y0<|Y1<|Wm<|Wm<|Wm ?_;refine Wq (DN (k:=o % (lS o k).length) rfl (ao rfl) (Aa rfl) (Aa rfl) rfl hm) ?_;refine Wq At ?_;refine Wq (Bv (ao rfl) (Aa rfl) (Aa rfl) rfl rfl rfl rfl rfl) ?_;(refine Ap ?_);refine Wa<|Y0 ?_
   refine AWp.any (by kernel_rfl) ?_
   refine FL 1 rfl rfl rfl (by kernel_rfl) (by kernel_rfl) (by kernel_rfl) rfl (PureQ.move rfl (ao rfl)) ?_
   refine FL 2 rfl rfl rfl (by kernel_rfl) (by kernel_rfl) (by kernel_rfl) rfl (PureQ.move rfl (ao rfl)) ?_
   refine FL 3 rfl rfl rfl (by kernel_rfl) (by kernel_rfl) (by kernel_rfl) rfl (QS (f:=Cv) (l:=lS o k) (i:=o % (lS o k).length) rfl rfl (ao rfl) (Aa rfl) (Aa rfl) rfl (Nat.le_of_lt hm)) ?_
   refine FL 5 rfl rfl rfl (by kernel_rfl) (by kernel_rfl) (by kernel_rfl) rfl (PureQ.move rfl (ao rfl)) ?_
   refine FL 6 rfl rfl rfl (by kernel_rfl) (by kernel_rfl) (by kernel_rfl) rfl (PureQ.move rfl (ao rfl)) ?_
   refine FL 7 rfl rfl rfl (by kernel_rfl) (by kernel_rfl) (by kernel_rfl) rfl (PureQ.add rfl (ao rfl) (ao rfl) (by omega) (by omega)) ?_
   refine FL 8 rfl rfl rfl (by kernel_rfl) (by kernel_rfl) (by kernel_rfl) rfl (QT (f:=Cv) (l:=lS o k) (i:=o % (lS o k).length+1) rfl rfl (ao rfl) (Aa rfl) (Aa rfl) rfl hm) ?_
   refine AWy.seq [0,4,9,10] (by kernel_rfl) (by kernel_rfl) rfl ?_
   refine CM (Aa rfl) (Aa rfl) rfl rfl rfl rfl rfl ?_;(refine Ap ?_);(refine Ap ?_);refine Wa ?_;apply AWl.nil;apply OnlyN.mk';apply Ah;refine Yn<|AWp.region<|Wm ?_;refine Wq AQ ?_;refine Wa ?_;apply AWl.nil
   refine ALoop.next (n - (k+1)) (by omega) ⟨k+1,by omega,rfl,rfl⟩ ?_
   exact Aj (by refine Yd ?_;refine Yd ?_;(refine FrLe.cons rfl (Fp rfl (Bd (by rw [Hp,lS,List.map_append];rfl))) ?_);exact FrLe.cons rfl (AVle.own rfl)<|Yd<|FrLe.nil) (by (refine HpLe.cons (BJ (by rw [oS,List.map_append];rfl)) ?_);exact HpLe.nil)
  ·obtain rfl : n = k := by omega
   refine Ac<|Y1<|Wm<|Wm ?_;refine Wq Ai ?_;refine Wm ?_;refine Ws ?_;refine Ws ?_;refine Wq AG ?_;apply Y0;refine Cf ?_;apply AL;apply Aw;apply AD;apply Az;refine Yn<|Y1<|Wm<|Wa<|Y0 ?_;apply As
   exact Yf
theorem QV (x y:Int) (hn:(Am x.natAbs).length≤4398046511104) (hn':(Am y.natAbs).length≤4398046511104):Abs Tryz.prog 75 [BI (DA x),BI (DA y)] (BI (DA (x+y))):=by
 refine Bg (AI Tryz.func75 (by kernel_rfl) (by kernel_rfl)) fun s vs hok hl hv=>?_
 rw [Lc hl]
 obtain ⟨x0,X0,n0,c0,e0,h0⟩:=Cl (hv 0 (by simp))
 obtain ⟨x1,X1,n1,c1,e1,h1⟩:=Cl (hv 1 (by simp))
 rw [e0,e1]
 exact (QB x0 x1 X0 X1 n0 c0 n1 c1 x y _ h0 h1 hn hn').mono fun e w' ⟨y,Y,m,k,he,hI,hE⟩=>⟨_,he,hE,fun s' hw hok' _ _=>by subst hw;exact GU hok' hI⟩
theorem ED (x y:Int) (hn:(Am x.natAbs).length≤4398046511103) (hn':(Am y.natAbs).length≤4398046511103) (hy:y ≠ 0):Abs Tryz.prog 74 [BI (DA x),BI (DA y)] (BI (BH (Rat.divInt x y))):=by
 refine Bg (AI Tryz.func74 (by kernel_rfl) (by kernel_rfl)) fun s vs hok hl hv=>?_
 rw [Lc hl]
 obtain ⟨x0,X0,n0,c0,e0,h0⟩:=Cl (hv 0 (by simp))
 obtain ⟨x1,X1,n1,c1,e1,h1⟩:=Cl (hv 1 (by simp))
 rw [e0,e1]
 exact (Gb x0 x1 X0 X1 n0 c0 n1 c1 x y _ h0 h1 hn hn' hy).mono fun e w' ⟨y,y',Y,Y',m,k,m',k',he,hI,hE⟩=>⟨_,he,hE,fun s' hw hok' _ _=>by subst hw;exact Em hok' hI⟩
structure Qr where
 n:Int
 d:Int
 k:Int
instance : Inhabited Qr:=⟨⟨0,0,0⟩⟩
def Qr.Ok (x : Qr):Prop:=-128≤x.n∧x.n≤127∧-128≤x.d∧x.d≤127∧0≤x.k∧x.k≤255
def qrC (x : Qr):List D:=[ex (.int .i8 x.n),ex (.int .i8 x.d),ex (.int .u8 x.k)]
def Cr (x : Qr):Int:=4611686018427387904+x.k
def Ob (x : Qr):Int:=if x.k % 8 = 7 then x.n*Cr x*Cr x+x.k else x.n
def Hl (x : Qr):Int:=if x.d = 0 then 1 else x.d
def LU (x : Qr):Int:=if x.k % 8 = 6 then Hl x*Cr x*Cr x else Hl x
def DY (x : Qr):Rat:=Rat.divInt (Ob x) (LU x)
theorem Oy {x : Qr} (h:x.Ok):(Am (Cr x).natAbs).length≤2:=Ea (by
 obtain ⟨_,_,_,_,h1,h2⟩:=h
 unfold Cr
 simp only [BB]
 omega)
theorem TE {x : Qr}:Hl x ≠ 0:=by unfold Hl;split <;> omega
theorem RY {x : Qr} (h:x.Ok):Cr x ≠ 0:=by
 obtain ⟨_,_,_,_,h1,h2⟩:=h
 unfold Cr
 omega
theorem A0i {x : Qr} (h:x.Ok):LU x ≠ 0:=by
 unfold LU
 split
 ·exact Int.mul_ne_zero (Int.mul_ne_zero TE (RY h)) (RY h)
 ·exact TE
theorem Qf {x : Qr} (h:x.Ok):(Am (Hl x).natAbs).length≤1:=by
 obtain ⟨_,_,h3,h4,_,_⟩:=h
 unfold Hl
 split <;> exact IF (by omega) (by omega)
theorem Zb {x : Qr} (h:x.Ok):(Am (LU x).natAbs).length≤5:=by
 unfold LU
 split
 ·exact Cd (N:=3) (Cd (N:=1) (Qf h) (Oy h)) (Oy h)
 ·exact Nat.le_trans (Qf h) (by omega)
theorem PI {x : Qr} (h:x.Ok):(Am (x.n*Cr x*Cr x+x.k).natAbs).length≤5:=Ea (by
 obtain ⟨h1,h2,_,_,h5,h6⟩:=h
 have hb0:0≤Cr x:=by unfold Cr;omega
 have hb:Cr x≤4611686018427388159:=by unfold Cr;omega
 have e1:-(128*4611686018427388159)≤x.n*Cr x∧x.n*Cr x≤128*4611686018427388159:=by
  have a:=Int.mul_le_mul_of_nonneg_right h1 hb0
  have b:=Int.mul_le_mul_of_nonneg_right h2 hb0
  omega
 generalize x.n*Cr x = y at e1
 have a:=Int.mul_le_mul_of_nonneg_right e1.1 hb0
 have b:=Int.mul_le_mul_of_nonneg_right e1.2 hb0
 simp only [BB]
 omega)
theorem YO {x : Qr} (h:x.Ok):(Am (Ob x).natAbs).length≤5:=by
 unfold Ob
 split
 ·exact PI h
 ·obtain ⟨h1,h2,_⟩:=h
  exact Nat.le_trans (IF (by omega) (by omega)) (by omega:1≤5)
theorem Tf {z : Int} {N:Nat} (h:(Am z.natAbs).length≤N) (h1:1≤N):RSz ((z:Int):Rat) N:=⟨by simpa using h,Nat.le_trans (by simpa using IF (z:=1) (by omega) (by omega)) h1⟩
theorem PM {x : Qr} (h:x.Ok):RSz (DY x) 10:=by
 unfold DY
 rw [Rat.divInt_eq_div]
 exact (Tf (YO h) (by omega)).divQ (Tf (Zb h) (by omega)) (fun e=>A0i h (by exact_mod_cast e))
theorem MX (x : Qr) (h:x.Ok):Abs Tryz.prog 34 [BI (qrC x)] (BI (BH (DY x))):=by
 have hbl:=Oy h
 have hbn:=RY h
 have hnB:=PI h
 obtain ⟨h1,h2,h3,h4,h5,h6⟩:=h
 have ln:(Am x.n.natAbs).length≤1:=IF (by omega) (by omega)
 have ld:(Am x.d.natAbs).length≤1:=IF (by omega) (by omega)
 have lk:(Am x.k.natAbs).length≤1:=IF (by omega) (by omega)
 have l1:(Am (1:Int).natAbs).length≤1:=IF (by omega) (by omega)
 have lnb:=Cd ln hbl
 have lnbb:=Cd lnb hbl
 have ldb:=Cd ld hbl
 have ldbb:=Cd ldb hbl
 have l1b:=Cd l1 hbl
 have l1bb:=Cd l1b hbl
 have hbig:Cr x≤9223372036854775807:=by unfold Cr;omega
 have hbig0:-9223372036854775808≤Cr x:=by unfold Cr;omega
 have hb2:Cr x*Cr x ≠ 0:=Int.mul_ne_zero hbn hbn
 have n1:(1:Int)*Cr x*Cr x ≠ 0:=Int.mul_ne_zero (Int.mul_ne_zero (by omega) hbn) hbn
 by_cases hD:x.d = 0
 ·have nd:x.d = 0∨x.d*Cr x*Cr x ≠ 0:=(Classical.em (x.d = 0)).imp id fun e=>Int.mul_ne_zero (Int.mul_ne_zero e hbn) hbn
  by_cases hk:x.k % 8 = 7
  ·refine Ab Tryz.func34 fun s0 => ?_
   rw [Tryz.ntmps34]
   apply Y1;refine Bx ?_;refine Al ?_;refine Y0<|Ac ?_
   refine Dr [[],[(6,0)],[(7,1)],[(8,2)],[],[(10,4)],[(11,5)],[(12,6)],[],[]] [[],[0],[0,1],[0,1,2],[],[4],[4,5],[0,1,2,3,4,5,6],[],[]] ?_
   refine Xq Ar ?_;refine Xq AA ?_;refine Xq Bh ?_;refine Xq (Af (Cn x.n (by omega) (by omega))) ?_;refine Xq Ar ?_;refine Xq AA ?_;refine Xq Bh ?_;refine Xq (Af (Cn x.d (by omega) (by omega))) ?_;refine Xn ?_;refine Xn ?_;refine ⟨_,rfl,?_⟩
   refine Sf ?_;refine Sf ?_;refine Y0<|Ac<|Y1 ?_;refine Wq Ar ?_;refine Wq AA ?_;refine Wq Ak ?_;apply Y0;refine Ct ?_;apply AWp.region;refine Wq (Af (Cn 1 (by omega) (by omega))) ?_;refine Sf ?_;refine Y0<|Y1 ?_;refine Wq Ar ?_;refine Wq AA ?_;refine Wq Bh ?_;refine Wq FJ ?_;refine Wq (Af (Cn (Cr x) hbig0 hbig)) ?_;refine Al ?_;refine Sf ?_;refine Y0<|Ac<|Y1 ?_;refine Wq Ar ?_;refine Wq AA ?_;refine Wq BU ?_;refine Wq Ak ?_;apply Y0;refine Ct ?_
   refine Dr [[],[],[(27,0),(28,1)],[],[(29,2),(30,3)],[],[(32,5)],[(33,6)],[(34,7)],[(31,4),(35,8)]] [[],[],[0,1],[],[0,1,2,3],[],[5],[5,6],[0,1,2,3,4,5,6,7],[0,1,2,3,4,5,6,7,8]] ?_
   refine Xq Ao ?_;refine Xq Ao ?_;refine Xq (Af (DS x.n (Cr x) (by omega) (by omega))) ?_;refine Xq Ao ?_;refine Xq (Af (DS (x.n*Cr x) (Cr x) (by omega) (by omega))) ?_;refine Xq Ar ?_;refine Xq AA ?_;refine Xq Bh ?_;refine Xq (Af (Cn x.k (by omega) (by omega))) ?_;refine Xq (Af (QV (x.n*Cr x*Cr x) x.k (by omega) (by omega))) ?_;refine ⟨_,rfl,?_⟩
   refine Sf ?_;refine Y0<|Ac<|Y1 ?_;refine Wq Ar ?_;refine Wq AA ?_;refine Wq BU ?_;refine Wq Ai ?_;apply Y0;refine Cf ?_;refine Ys<|Y1 ?_;refine Wq Ao ?_;refine Wq Ao ?_;refine Wq (Af (ED (x.n*Cr x*Cr x+x.k) 1 (by omega) (by omega) (by omega))) ?_;refine Sf ?_;apply Y0;apply As
   exact AT (Rets.of1 (ResV.cell rfl rfl (Aa rfl) rfl rfl rfl) (Bd (by simp only [DY,Ob,LU,Hl,if_pos hk,if_neg (show ¬ x.k % 8 = 6 by omega)];(first | rw [if_pos hD] | rw [if_neg hD]);rfl)))
  ·by_cases hk6:x.k % 8 = 6
   ·refine Ab Tryz.func34 fun s0 => ?_
    rw [Tryz.ntmps34]
    apply Y1;refine Bx ?_;refine Al ?_;refine Y0<|Ac ?_
    refine Dr [[],[(6,0)],[(7,1)],[(8,2)],[],[(10,4)],[(11,5)],[(12,6)],[],[]] [[],[0],[0,1],[0,1,2],[],[4],[4,5],[0,1,2,3,4,5,6],[],[]] ?_
    refine Xq Ar ?_;refine Xq AA ?_;refine Xq Bh ?_;refine Xq (Af (Cn x.n (by omega) (by omega))) ?_;refine Xq Ar ?_;refine Xq AA ?_;refine Xq Bh ?_;refine Xq (Af (Cn x.d (by omega) (by omega))) ?_;refine Xn ?_;refine Xn ?_;refine ⟨_,rfl,?_⟩
    refine Sf ?_;refine Sf ?_;refine Y0<|Ac<|Y1 ?_;refine Wq Ar ?_;refine Wq AA ?_;refine Wq Ak ?_;apply Y0;refine Ct ?_;apply AWp.region;refine Wq (Af (Cn 1 (by omega) (by omega))) ?_;refine Sf ?_;refine Y0<|Y1 ?_;refine Wq Ar ?_;refine Wq AA ?_;refine Wq Bh ?_;refine Wq FJ ?_;refine Wq (Af (Cn (Cr x) hbig0 hbig)) ?_;refine Al ?_;refine Sf ?_;refine Y0<|Ac<|Y1 ?_;refine Wq Ar ?_;refine Wq AA ?_;refine Wq BU ?_;refine Wq Ai ?_;apply Y0;refine Cf ?_;refine Ys<|Ac<|Y1 ?_;refine Wq Ar ?_;refine Wq AA ?_;refine Wq BU ?_;refine Wq Ak ?_;apply Y0;refine Ct ?_
    refine Dr [[],[],[(41,0),(42,1)],[],[(43,2),(44,3)]] [[],[],[0,1],[],[0,1,2,3]] ?_
    refine Xq Ao ?_;refine Xq Ao ?_;refine Xq (Af (DS 1 (Cr x) (by omega) (by omega))) ?_;refine Xq Ao ?_;refine Xq (Af (DS (1*Cr x) (Cr x) (by omega) (by omega))) ?_;refine ⟨_,rfl,?_⟩
    refine Sf ?_;refine Y0<|Y1 ?_;refine Wq Ao ?_;refine Wq Ao ?_;refine Wq (Af (ED x.n (1*Cr x*Cr x) (by omega) (by omega) n1)) ?_;refine Sf ?_;apply Y0;apply As
    exact AT (Rets.of1 (ResV.cell rfl rfl (Aa rfl) rfl rfl rfl) (Bd (by simp only [DY,Ob,LU,Hl,if_neg hk,if_pos hk6];(first | rw [if_pos hD] | rw [if_neg hD]);rfl)))
   ·refine Ab Tryz.func34 fun s0 => ?_
    rw [Tryz.ntmps34]
    apply Y1;refine Bx ?_;refine Al ?_;refine Y0<|Ac ?_
    refine Dr [[],[(6,0)],[(7,1)],[(8,2)],[],[(10,4)],[(11,5)],[(12,6)],[],[]] [[],[0],[0,1],[0,1,2],[],[4],[4,5],[0,1,2,3,4,5,6],[],[]] ?_
    refine Xq Ar ?_;refine Xq AA ?_;refine Xq Bh ?_;refine Xq (Af (Cn x.n (by omega) (by omega))) ?_;refine Xq Ar ?_;refine Xq AA ?_;refine Xq Bh ?_;refine Xq (Af (Cn x.d (by omega) (by omega))) ?_;refine Xn ?_;refine Xn ?_;refine ⟨_,rfl,?_⟩
    refine Sf ?_;refine Sf ?_;refine Y0<|Ac<|Y1 ?_;refine Wq Ar ?_;refine Wq AA ?_;refine Wq Ak ?_;apply Y0;refine Ct ?_;apply AWp.region;refine Wq (Af (Cn 1 (by omega) (by omega))) ?_;refine Sf ?_;refine Y0<|Y1 ?_;refine Wq Ar ?_;refine Wq AA ?_;refine Wq Bh ?_;refine Wq FJ ?_;refine Wq (Af (Cn (Cr x) hbig0 hbig)) ?_;refine Al ?_;refine Sf ?_;refine Y0<|Ac<|Y1 ?_;refine Wq Ar ?_;refine Wq AA ?_;refine Wq BU ?_;refine Wq Ai ?_;apply Y0;refine Cf ?_;refine Ys<|Ac<|Y1 ?_;refine Wq Ar ?_;refine Wq AA ?_;refine Wq BU ?_;refine Wq Ai ?_;apply Y0;refine Cf ?_;refine Ys<|Y1 ?_;refine Wq Ao ?_;refine Wq Ao ?_;refine Wq (Af (ED x.n 1 (by omega) (by omega) (by omega))) ?_;refine Sf ?_;apply Y0;apply As
    exact AT (Rets.of1 (ResV.cell rfl rfl (Aa rfl) rfl rfl rfl) (Bd (by simp only [DY,Ob,LU,Hl,if_neg hk,if_neg hk6];(first | rw [if_pos hD] | rw [if_neg hD]);rfl)))
 ·have nd:x.d = 0∨x.d*Cr x*Cr x ≠ 0:=(Classical.em (x.d = 0)).imp id fun e=>Int.mul_ne_zero (Int.mul_ne_zero e hbn) hbn
  by_cases hk:x.k % 8 = 7
  ·refine Ab Tryz.func34 fun s0 => ?_
   rw [Tryz.ntmps34]
   apply Y1;refine Bx ?_;refine Al ?_;refine Y0<|Ac ?_
   refine Dr [[],[(6,0)],[(7,1)],[(8,2)],[],[(10,4)],[(11,5)],[(12,6)],[],[]] [[],[0],[0,1],[0,1,2],[],[4],[4,5],[0,1,2,3,4,5,6],[],[]] ?_
   refine Xq Ar ?_;refine Xq AA ?_;refine Xq Bh ?_;refine Xq (Af (Cn x.n (by omega) (by omega))) ?_;refine Xq Ar ?_;refine Xq AA ?_;refine Xq Bh ?_;refine Xq (Af (Cn x.d (by omega) (by omega))) ?_;refine Xn ?_;refine Xn ?_;refine ⟨_,rfl,?_⟩
   refine Sf ?_;refine Sf ?_;refine Y0<|Ac<|Y1 ?_;refine Wq Ar ?_;refine Wq AA ?_;refine Wq Ai ?_;apply Y0;refine Cf ?_;refine Ys<|Y1 ?_;refine Wq Ar ?_;refine Wq AA ?_;refine Wq Bh ?_;refine Wq FJ ?_;refine Wq (Af (Cn (Cr x) hbig0 hbig)) ?_;refine Al ?_;refine Sf ?_;refine Y0<|Ac<|Y1 ?_;refine Wq Ar ?_;refine Wq AA ?_;refine Wq BU ?_;refine Wq Ak ?_;apply Y0;refine Ct ?_
   refine Dr [[],[],[(27,0),(28,1)],[],[(29,2),(30,3)],[],[(32,5)],[(33,6)],[(34,7)],[(31,4),(35,8)]] [[],[],[0,1],[],[0,1,2,3],[],[5],[5,6],[0,1,2,3,4,5,6,7],[0,1,2,3,4,5,6,7,8]] ?_
   refine Xq Ao ?_;refine Xq Ao ?_;refine Xq (Af (DS x.n (Cr x) (by omega) (by omega))) ?_;refine Xq Ao ?_;refine Xq (Af (DS (x.n*Cr x) (Cr x) (by omega) (by omega))) ?_;refine Xq Ar ?_;refine Xq AA ?_;refine Xq Bh ?_;refine Xq (Af (Cn x.k (by omega) (by omega))) ?_;refine Xq (Af (QV (x.n*Cr x*Cr x) x.k (by omega) (by omega))) ?_;refine ⟨_,rfl,?_⟩
   refine Sf ?_;refine Y0<|Ac<|Y1 ?_;refine Wq Ar ?_;refine Wq AA ?_;refine Wq BU ?_;refine Wq Ai ?_;apply Y0;refine Cf ?_;refine Ys<|Y1 ?_;refine Wq Ao ?_;refine Wq Ao ?_;refine Wq (Af (ED (x.n*Cr x*Cr x+x.k) x.d (by omega) (by omega) hD)) ?_;refine Sf ?_;apply Y0;apply As
   exact AT (Rets.of1 (ResV.cell rfl rfl (Aa rfl) rfl rfl rfl) (Bd (by simp only [DY,Ob,LU,Hl,if_pos hk,if_neg (show ¬ x.k % 8 = 6 by omega)];(first | rw [if_pos hD] | rw [if_neg hD]);rfl)))
  ·by_cases hk6:x.k % 8 = 6
   ·refine Ab Tryz.func34 fun s0 => ?_
    rw [Tryz.ntmps34]
    apply Y1;refine Bx ?_;refine Al ?_;refine Y0<|Ac ?_
    refine Dr [[],[(6,0)],[(7,1)],[(8,2)],[],[(10,4)],[(11,5)],[(12,6)],[],[]] [[],[0],[0,1],[0,1,2],[],[4],[4,5],[0,1,2,3,4,5,6],[],[]] ?_
    refine Xq Ar ?_;refine Xq AA ?_;refine Xq Bh ?_;refine Xq (Af (Cn x.n (by omega) (by omega))) ?_;refine Xq Ar ?_;refine Xq AA ?_;refine Xq Bh ?_;refine Xq (Af (Cn x.d (by omega) (by omega))) ?_;refine Xn ?_;refine Xn ?_;refine ⟨_,rfl,?_⟩
    refine Sf ?_;refine Sf ?_;refine Y0<|Ac<|Y1 ?_;refine Wq Ar ?_;refine Wq AA ?_;refine Wq Ai ?_;apply Y0;refine Cf ?_;refine Ys<|Y1 ?_;refine Wq Ar ?_;refine Wq AA ?_;refine Wq Bh ?_;refine Wq FJ ?_;refine Wq (Af (Cn (Cr x) hbig0 hbig)) ?_;refine Al ?_;refine Sf ?_;refine Y0<|Ac<|Y1 ?_;refine Wq Ar ?_;refine Wq AA ?_;refine Wq BU ?_;refine Wq Ai ?_;apply Y0;refine Cf ?_;refine Ys<|Ac<|Y1 ?_;refine Wq Ar ?_;refine Wq AA ?_;refine Wq BU ?_;refine Wq Ak ?_;apply Y0;refine Ct ?_
    refine Dr [[],[],[(41,0),(42,1)],[],[(43,2),(44,3)]] [[],[],[0,1],[],[0,1,2,3]] ?_
    refine Xq Ao ?_;refine Xq Ao ?_;refine Xq (Af (DS x.d (Cr x) (by omega) (by omega))) ?_;refine Xq Ao ?_;refine Xq (Af (DS (x.d*Cr x) (Cr x) (by omega) (by omega))) ?_;refine ⟨_,rfl,?_⟩
    refine Sf ?_;refine Y0<|Y1 ?_;refine Wq Ao ?_;refine Wq Ao ?_;refine Wq (Af (ED x.n (x.d*Cr x*Cr x) (by omega) (by omega) (nd.resolve_left hD))) ?_;refine Sf ?_;apply Y0;apply As
    exact AT (Rets.of1 (ResV.cell rfl rfl (Aa rfl) rfl rfl rfl) (Bd (by simp only [DY,Ob,LU,Hl,if_neg hk,if_pos hk6];(first | rw [if_pos hD] | rw [if_neg hD]);rfl)))
   ·refine Ab Tryz.func34 fun s0 => ?_
    rw [Tryz.ntmps34]
    apply Y1;refine Bx ?_;refine Al ?_;refine Y0<|Ac ?_
    refine Dr [[],[(6,0)],[(7,1)],[(8,2)],[],[(10,4)],[(11,5)],[(12,6)],[],[]] [[],[0],[0,1],[0,1,2],[],[4],[4,5],[0,1,2,3,4,5,6],[],[]] ?_
    refine Xq Ar ?_;refine Xq AA ?_;refine Xq Bh ?_;refine Xq (Af (Cn x.n (by omega) (by omega))) ?_;refine Xq Ar ?_;refine Xq AA ?_;refine Xq Bh ?_;refine Xq (Af (Cn x.d (by omega) (by omega))) ?_;refine Xn ?_;refine Xn ?_;refine ⟨_,rfl,?_⟩
    refine Sf ?_;refine Sf ?_;refine Y0<|Ac<|Y1 ?_;refine Wq Ar ?_;refine Wq AA ?_;refine Wq Ai ?_;apply Y0;refine Cf ?_;refine Ys<|Y1 ?_;refine Wq Ar ?_;refine Wq AA ?_;refine Wq Bh ?_;refine Wq FJ ?_;refine Wq (Af (Cn (Cr x) hbig0 hbig)) ?_;refine Al ?_;refine Sf ?_;refine Y0<|Ac<|Y1 ?_;refine Wq Ar ?_;refine Wq AA ?_;refine Wq BU ?_;refine Wq Ai ?_;apply Y0;refine Cf ?_;refine Ys<|Ac<|Y1 ?_;refine Wq Ar ?_;refine Wq AA ?_;refine Wq BU ?_;refine Wq Ai ?_;apply Y0;refine Cf ?_;refine Ys<|Y1 ?_;refine Wq Ao ?_;refine Wq Ao ?_;refine Wq (Af (ED x.n x.d (by omega) (by omega) hD)) ?_;refine Sf ?_;apply Y0;apply As
    exact AT (Rets.of1 (ResV.cell rfl rfl (Aa rfl) rfl rfl rfl) (Bd (by simp only [DY,Ob,LU,Hl,if_neg hk,if_neg hk6];(first | rw [if_pos hD] | rw [if_neg hD]);rfl)))
def Lw (f : Nat→Rat) (n:Nat):List (List D):=(List.range n).map fun j=>BH (f j)
theorem Hv (f : Nat→Rat) (n:Nat):(Lw f n).length = n:=by simp [Lw]
theorem Ug (f : Nat→Rat) (n:Nat):Lw f n ++ [BH (f n)] = Lw f (n+1):=by simp [Lw,List.range_succ]
theorem YM {r : List D} {sz:Nat} (h:r.length = sz):∀ k,k<[r].length→([r].getD k []).length = sz:=fun k hk=>by
 obtain rfl:k = 0:=by simpa using hk
 exact h
section
variable {P : Program} {s0:An} {n:Nat} {Q:Exit→AS→Prop} {fr:List (Nat × AV)} {hp:List Ow}
theorem VQ {c : Code} {T:Nat} {f:Nat→Rat} {len:Nat} {frf:Nat→Nat→List (Nat × AV)} {hpf:Nat→List Ow} (id:Nat) (hh:hp[id]? = some (.obj (NX T 4 (Lw f len)))) (h0:0<len) (hf:∀ g c,Eb id (sX g len c) fr = some (frf g c)) (hpl:PlainHp id hp) (hs:∀ g,DP hp id (.obj (BA [⟨g,T,BE f len⟩])) = some (hpf g))
  (h:∀ g k,len≤k→k≤9223372036854775807→AWp P s0 n c Q ⟨frf g k,hpf g⟩):AWp P s0 n c Q ⟨fr,hp⟩:=by
 have hl:=Hv f len
 refine ZH id hh (by omega) (fun g c=>by rw [hl];exact hf g c) hpl hs fun g k h1 h2=>h g k (by omega) h2
end
abbrev zR : Nat→Rat:=fun _=>((0:Int):Rat)
theorem ME (n : Nat) (h0:0<n) (hn:n≤1000):Con Tryz.prog 26 [.d (ex (.int .i64 (n:Nat)))] [] [] (fun r hp'=>∃ g c,n≤c∧c≤9223372036854775807∧r = .d (sX g n c)∧hp' = [.dead,.obj (BA [⟨g,54,BE zR n⟩])]):=by
 refine Hg Tryz.func26 rfl (AI Tryz.func26 (by kernel_rfl) (by kernel_rfl)) rfl fun s0=>?_
 rw [Tryz.ntmps26]
 refine Y1<|Wa<|Y0<|Y1 ?_;refine CM (Aa rfl) (Aa rfl) rfl rfl rfl rfl rfl ?_;refine Wa<|Y0<|Ac<|Y1<|Wa<|Y0<|AWp.block ?_
 refine AJ (fun mz σ=>∃ k,k≤n∧mz = n - k∧σ = ⟨[(0,.d (ex (.int .i64 (n:Nat)))),(3,.own 1),(4,.d (ex (.int .i64 (k:Nat))))],[.pin [],.obj (NX 54 4 (Lw zR k))]⟩) ?le ⟨0,by omega,rfl,rfl⟩ ?round
 case le =>
  refine JF (A0T 1 rfl rfl) ?_
  exact Aj (by exact Yd<|FrLe.cons rfl (AVle.own rfl)<|Yd<|FrLe.nil) (by exact HpLe.cons (Cb rfl)<|HpLe.cons (OwLe.obj rfl)<|HpLe.nil)
 case round =>
  rintro mz _ ⟨k,hk,rfl,rfl⟩
  by_cases hlt:k<n
  ·have hlk:=Hv zR k
   refine Ac<|Y1<|Wm<|Wm ?_;refine Wq Ak ?_;apply Y0;refine Ct ?_;refine Ys<|Ac<|AWp.block<|AWp.region<|Wm ?_;refine Wq (Af (BF 0 (by omega) (by omega))) ?_;refine Wq (Bv (ao rfl) (Aa rfl) (Aa rfl) rfl rfl rfl rfl rfl) ?_;(refine ZF (r2:=[BH ((0:Int):Rat)]) (ao rfl) rfl (YM rfl) (by decide) rfl (Aa rfl) (Aa rfl) rfl rfl (by simp;omega) (by simp;omega) rfl (by first | ((repeat (first | exact PlainHp.nil | refine PlainHp.var ?_ | refine Da ?_ | refine PlainHp.dead ?_ | refine PlainHp.obj ?_ | refine PlainHp.pin rfl ?_ | refine CL rfl ?_));done) | fail) rfl ?_);refine Wa ?_;apply AWl.nil;apply Ah;refine Yn<|AWp.region<|Wm ?_;refine Wq AQ ?_;refine Wa ?_;apply AWl.nil
   refine ALoop.next (n - (k+1)) (by omega) ⟨k+1,by omega,rfl,rfl⟩ ?_
   exact Aj (by exact Yd<|FrLe.cons rfl (AVle.own rfl)<|Yd<|FrLe.nil) (by exact HpLe.cons (Cb rfl)<|HpLe.cons (OwLe.obj (by rw [← Ug]))<|HpLe.nil)
  ·obtain rfl : n = k := by omega
   refine VQ 1 rfl h0 (fun g c=>rfl) (by first | ((repeat (first | exact PlainHp.nil | refine PlainHp.var ?_ | refine Da ?_ | refine PlainHp.dead ?_ | refine PlainHp.obj ?_ | refine PlainHp.pin rfl ?_ | refine CL rfl ?_));done) | fail) (fun g=>rfl) fun g c hc1 hc2=>?_
   refine Ac<|Y1<|Wm<|Wm ?_;refine Wq Ai ?_;apply Y0;refine Cf ?_;apply AL;apply Aw;apply AD;apply Az;refine Yn<|Y1<|Wm<|Wa<|Y0 ?_;apply As
   refine FK (RetsA.one rfl) rfl ?_ rfl
   exact ⟨g,c,hc1,hc2,rfl,rfl⟩
theorem Re : Abs Tryz.prog 26 [ex (.int .i64 ((0:Nat):Int))] (Gy zR 0):=by
 refine Ab Tryz.func26 fun s0=>?_
 rw [Tryz.ntmps26]
 refine Y1<|Wa<|Y0<|Y1 ?_;refine CM (Aa rfl) (Aa rfl) rfl rfl rfl rfl rfl ?_;refine Wa<|Y0<|Ac<|Y1<|Wa<|Y0<|AWp.block ?_
 refine AJ (fun mz σ=>∃ k,k≤0∧mz = 0 - k∧σ = ⟨[(0,.d (ex (.int .i64 ((0:Nat):Int)))),(3,.own 0),(4,.d (ex (.int .i64 (k:Nat))))],[.row 54 4 []]⟩) ?le ⟨0,by omega,rfl,rfl⟩ ?round
 case le=>exact Aj (by exact Yd<|FrLe.cons rfl (AVle.own rfl)<|Yd<|FrLe.nil) (by exact Yr<|HpLe.nil)
 case round =>
  rintro mz _ ⟨k,hk,rfl,rfl⟩
  by_cases hlt:k<0
  ·omega
  ·obtain rfl : k = 0 := by omega
   refine Ac<|Y1<|Wm<|Wm ?_;refine Wq Ai ?_;apply Y0;refine Cf ?_;apply AL;apply Aw;apply AD;apply Az;refine Yn<|Y1<|Wm<|Wa<|Y0 ?_;apply As
   exact Yf
def OY (T : Nat) (V:List Int):D:=slD T 1 (V.map fun z=>[ex (.int .i8 z)])
def ZV (V : List Int):Prop:=∀ z∈V,-128≤z∧z≤127
def dV (v : Int):Int:=if 90<v then 2 else if v < -90 then 3 else 1
def qV (v : Int):Qr:=⟨v.tmod 4,dV v,0⟩
def KH (V : List Int) (k j:Nat):Rat:=if V = [] then ((0:Int):Rat) else DY (qV (V.getD ((k+j) % V.length) default))
def JM (V : List Int) (k n:Nat) (j:Nat):Rat:=if j<n then KH V k j else ((0:Int):Rat)
theorem A01 (z : Int):-3≤Int.tmod z 4∧Int.tmod z 4≤3:=by
 rcases Int.le_total 0 z with h | h
 ·rw [Int.tmod_eq_emod_of_nonneg h];omega
 ·have:Int.tmod z 4 = -((-z) % 4):=by
   rw [← Int.tmod_eq_emod_of_nonneg (by omega),Int.neg_tmod,Int.neg_neg]
  omega
theorem A17 (v : Int):1≤dV v∧dV v≤3:=by
 unfold dV
 split
 ·omega
 ·split <;> omega
theorem ZP (v : Int):(qV v).Ok:=by
 have h:=A01 v
 have h':=A17 v
 exact ⟨show -128≤v.tmod 4 by omega,show v.tmod 4≤127 by omega,show -128≤dV v by omega,show dV v≤127 by omega,Int.le_refl 0,show (0:Int)≤255 by omega⟩
theorem YH (V : List Int) (k j:Nat):RSz (KH V k j) 10:=by
 unfold KH
 split
 ·exact RSz.mono (Fu (by omega) (by omega):RSz _ 1) (by omega)
 ·exact PM (ZP _)
theorem Ue (V : List Int) (k:Nat):JM V k 0 = zR:=by
 funext j
 rw [JM,if_neg (by omega)]
theorem Wx (V : List Int) (k j:Nat):GL (JM V k j) j (KH V k j) = JM V k (j+1):=by
 funext i
 unfold GL JM
 rcases Nat.lt_trichotomy i j with h | h | h
 ·rw [if_neg (by omega),if_pos h,if_pos (by omega)]
 ·subst h
  rw [if_pos rfl,if_pos (by omega)]
 ·rw [if_neg (by omega),if_neg (by omega),if_neg (by omega)]
theorem Wy {V : List Int} {k n:Nat}:BE (JM V k n) n = BE (KH V k) n:=FY fun j hj=>by rw [JM,if_pos hj]
theorem Tg (T : Nat) (V:List Int) (hV:ZV V) (k n:Nat) (h0:0<n) (hn:n≤100) (hk:k≤1000):Con Tryz.prog 27 [.d (BI [OY T V]),.d (ex (.int .i64 (k:Nat))),.d (ex (.int .i64 (n:Nat)))] [] [] (fun r hp'=>∃ g c,n≤c∧c≤9223372036854775807∧r = .d (sX g n c)∧hp' = [.dead,.var 25 ([OY T V].map .d),.dead,.obj (BA [⟨g,54,BE (KH V k) n⟩])]):=by
 by_cases hV0:V = []
 ·subst hV0
  have hl0:(([]:List Int)).length = 0:=rfl
  refine Hg Tryz.func27 rfl (AI Tryz.func27 (by kernel_rfl) (by kernel_rfl)) rfl fun s0=>?_
  rw [Tryz.ntmps27]
  apply Y1;refine Bx ?_;refine Wa<|Y0<|Y1<|Wm ?_
  refine Fi [] [] (ME n h0 (by omega)) (.inl rfl) rfl rfl (.inl ⟨rfl,rfl⟩) (by repeat (first | exact ArgsC.nil | refine ArgsC.d rfl (D.le.refl _) ?_ | refine Es rfl rfl ?_)) (by decide) SelR.nil trivial rfl ?_
  rintro _ _ ⟨g,c,hc1,hc2,rfl,rfl⟩
  refine ⟨_,_,_,(by first | exact AVRen.d | exact AVRen.own rfl | exact AVRen.ptr rfl | exact Et rfl),(by repeat (first | exact SetR.nil | (apply SetR.cons;(first | exact OwRen.dead | exact BP | exact OwRen.obj | exact Ca | exact BQ rfl);exact rfl))),(by repeat (first | exact AppR.nil | (apply AppR.cons;(first | exact OwRen.dead | exact BP | exact OwRen.obj | exact Ca | exact BQ rfl);exact rfl))),?_⟩
  refine Wa<|Y0<|Ac<|Y1<|Wa<|Y0<|AWp.block ?_
  refine AJ (fun mz σ=>∃ j,j≤0∧mz = 0 - j∧σ = ⟨[(2,.d (ex (.int .i64 (n:Nat)))),(3,.ptr 1 0),(7,.d (sX g n c)),(8,.d (ex (.int .i64 (j:Nat))))],[.pin [],.var 25 ([OY T []].map .d),.dead,.obj (BA [⟨g,54,BE zR n⟩])]⟩) ?lej ⟨0,by omega,rfl,rfl⟩ ?roundj
  case lej=>exact Aj (by exact Yd<|Yp<|Yd<|Yd<|FrLe.nil) (by exact HpLe.cons (Cb rfl)<|Yv<|HpLe.cons (OwLe.dead)<|HpLe.cons (OwLe.obj rfl)<|HpLe.nil)
  case roundj =>
   rintro mz _ ⟨j,hj,rfl,rfl⟩
   by_cases hltj:j<0
   ·omega
   ·obtain rfl : j = 0 := by omega
    refine Ac<|Y1<|Wm<|Wm ?_;refine Wq Ak ?_;refine Wm ?_;refine Wg Ar ?_;refine Wg AA ?_;refine Wg AR ?_;refine Wg Ai ?_;refine Wq AO ?_;apply Y0;refine Cf ?_;apply AL;apply Aw;apply AD;apply Az;refine Yn<|Y1<|Wm<|Wa<|Y0 ?_;apply As
    refine FK (RetsA.one rfl) rfl ?_ rfl
    exact ⟨g,c,hc1,hc2,rfl,by rw [FY (f:=KH [] k) (g:=zR) fun j _=>if_pos rfl]⟩
 ·have hVl:0<V.length:=List.length_pos_iff.2 hV0
  refine Hg Tryz.func27 rfl (AI Tryz.func27 (by kernel_rfl) (by kernel_rfl)) rfl fun s0=>?_
  rw [Tryz.ntmps27]
  apply Y1;refine Bx ?_;refine Wa<|Y0<|Y1<|Wm ?_
  refine Fi [] [] (ME n h0 (by omega)) (.inl rfl) rfl rfl (.inl ⟨rfl,rfl⟩) (by repeat (first | exact ArgsC.nil | refine ArgsC.d rfl (D.le.refl _) ?_ | refine Es rfl rfl ?_)) (by decide) SelR.nil trivial rfl ?_
  rintro _ _ ⟨g,c,hc1,hc2,rfl,rfl⟩
  refine ⟨_,_,_,(by first | exact AVRen.d | exact AVRen.own rfl | exact AVRen.ptr rfl | exact Et rfl),(by repeat (first | exact SetR.nil | (apply SetR.cons;(first | exact OwRen.dead | exact BP | exact OwRen.obj | exact Ca | exact BQ rfl);exact rfl))),(by repeat (first | exact AppR.nil | (apply AppR.cons;(first | exact OwRen.dead | exact BP | exact OwRen.obj | exact Ca | exact BQ rfl);exact rfl))),?_⟩
  refine Wa<|Y0<|Ac<|Y1<|Wa<|Y0<|AWp.block ?_
  refine AJ (fun mz σ=>∃ j,j≤n∧mz = n - j∧σ = ⟨[(1,.d (ex (.int .i64 (k:Nat)))),(2,.d (ex (.int .i64 (n:Nat)))),(3,.ptr 1 0),(7,.d (sX g n c)),(8,.d (ex (.int .i64 (j:Nat))))],[.pin [],.var 25 ([OY T V].map .d),.dead,.obj (BA [⟨g,54,BE (JM V k j) n⟩])]⟩) ?lej ⟨0,by omega,rfl,rfl⟩ ?roundj
  case lej=>exact Aj (by exact Yd<|Yd<|Yp<|Yd<|Yd<|FrLe.nil) (by exact HpLe.cons (Cb rfl)<|Yv<|HpLe.cons (OwLe.dead)<|HpLe.cons (OwLe.obj (by rw [Ue]))<|HpLe.nil)
  case roundj =>
   rintro mz _ ⟨j,hj,rfl,rfl⟩
   by_cases hltj:j<n
   ·have hi:(k+j) % V.length<V.length:=Nat.mod_lt _ hVl
    have hv:=hV (V.getD ((k+j) % V.length) default) (by rw [List.getD_eq_getElem?_getD,List.getElem?_eq_getElem hi];exact List.getElem_mem _)
    have er:KH V k j = DY (qV (V.getD ((k+j) % V.length) default)):=if_neg hV0
    obtain ⟨v,hvg⟩:∃ v,V.getD ((k+j) % V.length) default = v:=⟨_,rfl⟩
    have cq:Abs Tryz.prog 34 [BI [ex (.int .i8 (Int.tmod (V.getD ((k+j) % V.length) default) 4)),ex (.int .i8 (dV v)),ex (.int .u8 0)]] (BI (BH (KH V k j))):=by rw [er,hvg];exact MX _ (ZP v)
    have hset:SetAt (BE (JM V k j) n) (j*4) (BH (KH V k j)) (BE (JM V k (j+1)) n):=by rw [← Wx];exact IJ hltj
    rcases (show 90<v∨(¬ 90<v∧v < -90)∨(¬ 90<v∧¬ v < -90) by omega) with hc | ⟨hc,hc'⟩ | ⟨hc,hc'⟩
    ·rw [show dV v = 2 by rw [dV, if_pos hc]] at cq
     refine Ac<|Y1<|Wm<|Wm ?_;refine Wq Ak ?_;refine Wm ?_;refine Wg Ar ?_;refine Wg AA ?_;refine Wg AR ?_;refine Wg Ak ?_;refine Wq AO ?_;apply Y0;refine Ct ?_;refine Ys<|Ac<|AWp.block<|Ac ?_
     refine Dr [[],[(24,0)],[],[],[(26,2),(27,3)],[],[(29,5)],[(30,6)],[(28,4),(31,7)],[(25,1),(32,8)],[(33,9)]] [[],[0],[],[],[2,3],[],[5],[5,6],[2,3,4,5,6,7],[0,1,2,3,4,5,6,7,8],[0,1,2,3,4,5,6,7,8,9]] ?_
     refine Xq Ar ?_;refine Xq AA ?_;refine Xq Ae ?_;refine Xq Ae ?_;refine Xq FJ ?_;refine Xq Ar ?_;refine Xq AA ?_;refine Xq AR ?_;refine Xq BU ?_;refine Xq (DN (k:=(k+j) % V.length) rfl (ah rfl) (Aa rfl) (Aa rfl) rfl (by omega)) ?_;refine Xq Bf ?_;refine ⟨_,rfl,?_⟩
     refine Wa<|Y0<|Y1<|Wa<|Y0<|Ac<|Y1<|Wm ?_;refine Wq Ak ?_;apply Y0;refine Ct ?_;refine AWp.region<|Wa<|Y0<|Ac<|Y1<|Wm ?_;refine Wq Ai ?_;apply Y0;refine Cf ?_;refine Ys<|AWp.region<|Wm<|Wm<|Wm ?_;refine Wq (KY (k:=.i8) (ao rfl) (ao rfl) (by decide)) ?_;refine Wm ?_;(refine BO rfl rfl ?_;(refine BK (Aa rfl) rfl rfl rfl ?_;(repeat ((first | refine ⟨_,AH (ao rfl),?_⟩ | refine ⟨_,Po rfl,?_⟩);refine ⟨_,rfl,?_⟩));refine ⟨_,rfl,?_⟩));refine Wq (Af (cq)) ?_;refine Wq (Ch (k:=j) (ao rfl) (ao rfl) (Aa rfl) (Aa rfl) hltj) ?_;refine JD (e:=⟨g,54,BE (JM V k j) n⟩) 3 0 (ao rfl) (ao rfl) rfl rfl (Aa rfl) rfl hset rfl ?_;apply AWl.nil;apply Ah;refine Yn<|AWp.region<|Wm ?_;refine Wq AQ ?_;refine Wa ?_;apply AWl.nil
     refine ALoop.next (n - (j+1)) (by omega) ⟨j+1,by omega,rfl,rfl⟩ ?_
     exact Aj (by exact Yd<|Yd<|Yp<|Yd<|Yd<|FrLe.nil) (by exact HpLe.cons (Cb rfl)<|Yv<|HpLe.cons (OwLe.dead)<|HpLe.cons (OwLe.obj rfl)<|HpLe.nil)
    ·rw [show dV v = 3 by rw [dV, if_neg hc, if_pos hc']] at cq
     refine Ac<|Y1<|Wm<|Wm ?_;refine Wq Ak ?_;refine Wm ?_;refine Wg Ar ?_;refine Wg AA ?_;refine Wg AR ?_;refine Wg Ak ?_;refine Wq AO ?_;apply Y0;refine Ct ?_;refine Ys<|Ac<|AWp.block<|Ac ?_
     refine Dr [[],[(24,0)],[],[],[(26,2),(27,3)],[],[(29,5)],[(30,6)],[(28,4),(31,7)],[(25,1),(32,8)],[(33,9)]] [[],[0],[],[],[2,3],[],[5],[5,6],[2,3,4,5,6,7],[0,1,2,3,4,5,6,7,8],[0,1,2,3,4,5,6,7,8,9]] ?_
     refine Xq Ar ?_;refine Xq AA ?_;refine Xq Ae ?_;refine Xq Ae ?_;refine Xq FJ ?_;refine Xq Ar ?_;refine Xq AA ?_;refine Xq AR ?_;refine Xq BU ?_;refine Xq (DN (k:=(k+j) % V.length) rfl (ah rfl) (Aa rfl) (Aa rfl) rfl (by omega)) ?_;refine Xq Bf ?_;refine ⟨_,rfl,?_⟩
     refine Wa<|Y0<|Y1<|Wa<|Y0<|Ac<|Y1<|Wm ?_;refine Wq Ai ?_;apply Y0;refine Cf ?_;refine Ys<|Ac<|Y1<|Wm ?_;refine Wq Ak ?_;apply Y0;refine Ct ?_;refine AWp.region<|Wa<|Y0<|AWp.region<|Wm<|Wm<|Wm ?_;refine Wq (KY (k:=.i8) (ao rfl) (ao rfl) (by decide)) ?_;refine Wm ?_;(refine BO rfl rfl ?_;(refine BK (Aa rfl) rfl rfl rfl ?_;(repeat ((first | refine ⟨_,AH (ao rfl),?_⟩ | refine ⟨_,Po rfl,?_⟩);refine ⟨_,rfl,?_⟩));refine ⟨_,rfl,?_⟩));refine Wq (Af (cq)) ?_;refine Wq (Ch (k:=j) (ao rfl) (ao rfl) (Aa rfl) (Aa rfl) hltj) ?_;refine JD (e:=⟨g,54,BE (JM V k j) n⟩) 3 0 (ao rfl) (ao rfl) rfl rfl (Aa rfl) rfl hset rfl ?_;apply AWl.nil;apply Ah;refine Yn<|AWp.region<|Wm ?_;refine Wq AQ ?_;refine Wa ?_;apply AWl.nil
     refine ALoop.next (n - (j+1)) (by omega) ⟨j+1,by omega,rfl,rfl⟩ ?_
     exact Aj (by exact Yd<|Yd<|Yp<|Yd<|Yd<|FrLe.nil) (by exact HpLe.cons (Cb rfl)<|Yv<|HpLe.cons (OwLe.dead)<|HpLe.cons (OwLe.obj rfl)<|HpLe.nil)
    ·rw [show dV v = 1 by rw [dV, if_neg hc, if_neg hc']] at cq
     refine Ac<|Y1<|Wm<|Wm ?_;refine Wq Ak ?_;refine Wm ?_;refine Wg Ar ?_;refine Wg AA ?_;refine Wg AR ?_;refine Wg Ak ?_;refine Wq AO ?_;apply Y0;refine Ct ?_;refine Ys<|Ac<|AWp.block<|Ac ?_
     refine Dr [[],[(24,0)],[],[],[(26,2),(27,3)],[],[(29,5)],[(30,6)],[(28,4),(31,7)],[(25,1),(32,8)],[(33,9)]] [[],[0],[],[],[2,3],[],[5],[5,6],[2,3,4,5,6,7],[0,1,2,3,4,5,6,7,8],[0,1,2,3,4,5,6,7,8,9]] ?_
     refine Xq Ar ?_;refine Xq AA ?_;refine Xq Ae ?_;refine Xq Ae ?_;refine Xq FJ ?_;refine Xq Ar ?_;refine Xq AA ?_;refine Xq AR ?_;refine Xq BU ?_;refine Xq (DN (k:=(k+j) % V.length) rfl (ah rfl) (Aa rfl) (Aa rfl) rfl (by omega)) ?_;refine Xq Bf ?_;refine ⟨_,rfl,?_⟩
     refine Wa<|Y0<|Y1<|Wa<|Y0<|Ac<|Y1<|Wm ?_;refine Wq Ai ?_;apply Y0;refine Cf ?_;refine Ys<|Ac<|Y1<|Wm ?_;refine Wq Ai ?_;apply Y0;refine Cf ?_;refine Ys<|AWp.region<|Wm<|Wm<|Wm ?_;refine Wq (KY (k:=.i8) (ao rfl) (ao rfl) (by decide)) ?_;refine Wm ?_;(refine BO rfl rfl ?_;(refine BK (Aa rfl) rfl rfl rfl ?_;(repeat ((first | refine ⟨_,AH (ao rfl),?_⟩ | refine ⟨_,Po rfl,?_⟩);refine ⟨_,rfl,?_⟩));refine ⟨_,rfl,?_⟩));refine Wq (Af (cq)) ?_;refine Wq (Ch (k:=j) (ao rfl) (ao rfl) (Aa rfl) (Aa rfl) hltj) ?_;refine JD (e:=⟨g,54,BE (JM V k j) n⟩) 3 0 (ao rfl) (ao rfl) rfl rfl (Aa rfl) rfl hset rfl ?_;apply AWl.nil;apply Ah;refine Yn<|AWp.region<|Wm ?_;refine Wq AQ ?_;refine Wa ?_;apply AWl.nil
     refine ALoop.next (n - (j+1)) (by omega) ⟨j+1,by omega,rfl,rfl⟩ ?_
     exact Aj (by exact Yd<|Yd<|Yp<|Yd<|Yd<|FrLe.nil) (by exact HpLe.cons (Cb rfl)<|Yv<|HpLe.cons (OwLe.dead)<|HpLe.cons (OwLe.obj rfl)<|HpLe.nil)
   ·obtain rfl : n = j := by omega
    refine Ac<|Y1<|Wm<|Wm ?_;refine Wq Ai ?_;refine Wm ?_;refine Ws ?_;refine Ws ?_;refine Ws ?_;refine Ws ?_;refine Wq AG ?_;apply Y0;refine Cf ?_;apply AL;apply Aw;apply AD;apply Az;refine Yn<|Y1<|Wm<|Wa<|Y0 ?_;apply As
    refine FK (RetsA.one rfl) rfl ?_ rfl
    exact ⟨g,c,hc1,hc2,rfl,by rw [Wy]⟩
theorem Wz (T : Nat) (V:List Int) (k:Nat):Abs Tryz.prog 27 [BI [OY T V],ex (.int .i64 (k:Nat)),ex (.int .i64 ((0:Nat):Int))] (Gy (KH V k) 0):=by
 refine Ab Tryz.func27 fun s0=>?_
 rw [Tryz.ntmps27]
 apply Y1;refine Bx ?_;refine Wa<|Y0<|Y1<|Wm ?_;refine Wq (Af (Re)) ?_;refine Wa<|Y0<|Ac<|Y1<|Wa<|Y0<|AWp.block ?_
 refine AJ (fun mz σ=>∃ j,j≤0∧mz = 0 - j∧σ = ⟨[(2,.d (ex (.int .i64 ((0:Nat):Int)))),(3,.ptr 0 0),(7,.d (Gy zR 0)),(8,.d (ex (.int .i64 (j:Nat))))],[.var 25 ([OY T V].map .d)]⟩) ?lej ⟨0,by omega,rfl,rfl⟩ ?roundj
 case lej=>exact Aj (by exact Yd<|Yp<|Yd<|Yd<|FrLe.nil) (by exact Yv<|HpLe.nil)
 case roundj =>
  rintro mz _ ⟨j,hj,rfl,rfl⟩
  by_cases hltj:j<0
  ·omega
  ·obtain rfl : j = 0 := by omega
   refine Ac<|Y1<|Wm<|Wm ?_;refine Wq Ai ?_;refine Wm ?_;refine Ws ?_;refine Ws ?_;refine Ws ?_;refine Ws ?_;refine Wq AG ?_;apply Y0;refine Cf ?_;apply AL;apply Aw;apply AD;apply Az;refine Yn<|Y1<|Wm<|Wa<|Y0 ?_;apply As
   exact Yf
def FB (V : List Int) (c:Nat) (i j:Nat):Rat:=KH V (i*c) j
def Mc (M : Nat→Nat→Rat) (i j:Nat):Rat:=if j<i then M j i else M i j
def GZ (M : Nat→Nat→Rat) (k q i j:Nat):Rat:=if i<k∨(i = k∧j<q) then Mc M i j else M i j
theorem PO (V : List Int) (c i j:Nat):RSz (FB V c i j) 10:=YH V _ _
theorem Hset.row {s : GS} {f:Nat→Rat} {b n cap:Nat} (h:Hset s ⟨b,54,BE f n⟩) (h1:n≤cap) (h2:cap≤9223372036854775807):(Gy f n).rel s (.slice (some ⟨b,0,none⟩) n cap):=by
 have hl:=Hv f n
 refine h.sl (rows:=Lw f n) rfl hl h1 h2 (fun k hk=>?_) fun k j hk hj=>?_
 ·rw [hl] at hk
  rw [Lw,List.getD_eq_getElem?_getD,List.getElem?_map,List.getElem?_range hk]
  exact DD _
 ·rw [hl] at hk
  have e1:(Lw f n).getD k [] = BH (f k):=by
   rw [Lw,List.getD_eq_getElem?_getD,List.getElem?_map,List.getElem?_range hk]
   rfl
  refine ⟨?_,?_⟩
  ·show k*4+j<(BE f n).length
   rw [CA]
   omega
  ·rw [e1]
   show Cs (BE f n) (k*4+j) = _
   unfold Cs
   rw [List.getD_eq_getElem?_getD,List.getD_eq_getElem?_getD,HK f hk hj]
theorem YB {s : GS} {T sz:Nat} {rows rows':List (List D)} (hl:rows.length = rows'.length) (h:∀ k,k<rows.length→(rows.getD k []).length = (rows'.getD k []).length∧∀ j,j<(rows.getD k []).length→∀ u,(Cs (rows.getD k []) j).rel s u→(Cs (rows'.getD k []) j).rel s u) {v:Value} (hv:(slD T sz rows).rel s v):(slD T sz rows').rel s v:=by
 obtain ⟨A,c,e,h1,h2,h3⟩:=hv
 refine ⟨A,c,by rw [e,hl],by rw [← hl];exact h1,h2,fun h0=>?_⟩
 rw [← hl] at h0
 obtain ⟨b,o,e1,h4⟩:=h3 h0
 refine ⟨b,o,e1,fun k hk=>?_⟩
 rw [← hl] at hk
 obtain ⟨h5,cs,fz,h6,h7⟩:=h4 k hk
 obtain ⟨h8,h9⟩:=h k hk
 refine ⟨h8 ▸ h5,cs,fz,h6,fun j hj=>?_⟩
 rw [← h8] at hj
 obtain ⟨h10,u,h11,h12,h13⟩:=h7 j hj
 exact ⟨h10,u,h11,h12,h9 j hj u h13⟩
def El (m n:Nat) (b:Nat→Nat) (M:Nat→Nat→Rat):List HE:=(List.range m).map fun i=>⟨b i,54,BE (M i) n⟩
def FU (m n:Nat) (b c:Nat→Nat):List (List D):=(List.range m).map fun i=>[sX (b i) n (c i)]
theorem Ww {s : GS} {m n:Nat} {b c:Nat→Nat} {M:Nat→Nat→Rat} (h:∀ e∈El m n b M,Hset s e) (hc:∀ i,i<m→n≤c i∧c i≤9223372036854775807) {v:Value} (hv:(slD 63 1 (FU m n b c)).rel s v):(Ck m n M).rel s v:=by
 refine YB (by simp [FU]) (fun k hk=>?_) hv
 have hk':k<m:=by simpa [FU] using hk
 have e1:(FU m n b c).getD k [] = [sX (b k) n (c k)]:=by simp [FU,hk']
 have e2:((List.range m).map fun i=>[Gy (M i) n]).getD k [] = [Gy (M k) n]:=by simp [hk']
 rw [e1,e2]
 refine ⟨rfl,fun j hj u hu=>?_⟩
 obtain rfl:j = 0:=by simpa using hj
 obtain rfl:u = .slice (some ⟨b k,0,none⟩) n (c k):=hu
 exact Hset.row (h _ (List.mem_map.2 ⟨k,List.mem_range.2 hk',rfl⟩)) (hc k hk').1 (hc k hk').2
theorem Rt {m n g:Nat} {b:Nat→Nat} {M:Nat→Nat→Rat}:El m n b M ++ [⟨g,54,BE (M m) n⟩] = El (m+1) n (GL b m g) M:=by
 simp only [El,List.range_succ,List.map_append,List.map_cons,List.map_nil,GL]
 congr 1
 apply List.map_congr_left
 intro i hi
 have:=List.mem_range.1 hi
 rw [if_neg (by omega)]
theorem Ru {m n g cg:Nat} {b c:Nat→Nat}:FU m n b c ++ [[sX g n cg]] = FU (m+1) n (GL b m g) (GL c m cg):=by
 simp only [FU,List.range_succ,List.map_append,List.map_cons,List.map_nil,GL]
 congr 1
 apply List.map_congr_left
 intro i hi
 have:=List.mem_range.1 hi
 rw [if_neg (by omega),if_neg (by omega)]
theorem Pq {m n i:Nat} {b:Nat→Nat} {M:Nat→Nat→Rat} (h:i<m):(El m n b M)[i]? = some ⟨b i,54,BE (M i) n⟩:=by simp [El,h]
theorem Ud {m n i j:Nat} {b:Nat→Nat} {M:Nat→Nat→Rat} {v:Rat} (h:i<m):(El m n b M).set i ⟨b i,54,BE (GL (M i) j v) n⟩ = El m n b (Yu M i j v):=by
 apply List.ext_getElem?
 intro q
 rw [List.getElem?_set]
 by_cases hq:q<m
 ·split
  ·rename_i e
   subst e
   simp [El,hq,Yu,GL]
  ·rename_i e
   simp only [El,List.getElem?_map,List.getElem?_range hq,Option.map_some,Yu]
   rw [GL,if_neg (fun h=>e h.symm)]
 ·split
  ·omega
  ·rw [List.getElem?_eq_none (by simp [El];omega),List.getElem?_eq_none (by simp [El];omega)]
theorem Pp {m n:Nat} {b:Nat→Nat} {M M':Nat→Nat→Rat} (h:∀ i,i<m→∀ j,j<n→M i j = M' i j):El m n b M = El m n b M':=by
 unfold El
 apply List.map_congr_left
 intro i hi
 rw [FY (h i (List.mem_range.1 hi))]
theorem RG {i r:Nat} {c:Int} (hi:i<r) (hr:r≤4) (h0:0≤c) (hc:c≤4):-9223372036854775808≤(i:Int)*c∧(i:Int)*c≤9223372036854775807:=by
 have h1:0≤(i:Int)*c:=Int.mul_nonneg (by omega) h0
 have h2:(i:Int)*c≤4*4:=Int.mul_le_mul (by omega) hc h0 (by omega)
 omega
theorem WZ (T : Nat) (V:List Int) (hV:ZV V) (a c:Nat) (ha:a<256) (hc:c<256):Abs Tryz.prog 14 [BI [OY T V],ex (.int .u8 (a:Nat)),ex (.int .u8 (c:Nat))] (Ck (a % 5) (c % 5) (FB V (c % 5))):=by
 have hr:a % 5≤4:=by omega
 by_cases hq:c % 5 = 0
 ·have hq' : (c : Int) % 5 = 0 := by omega
  refine Ab Tryz.func14 fun s0=>?_
  rw [Tryz.ntmps14]
  apply Y1;refine Bx ?_;refine Wa<|Y0<|Y1 ?_;refine CM (Aa rfl) (Aa rfl) rfl rfl rfl rfl rfl ?_;refine Wa<|Y0<|Ac<|Y1<|Wa<|Y0<|AWp.block ?_
  refine AJ (fun mz σ=>∃ k,k≤a % 5∧mz = a % 5 - k∧σ = ⟨[(1,.d (ex (.int .u8 (a:Nat)))),(2,.d (ex (.int .u8 (c:Nat)))),(3,.ptr 0 0),(7,.own 1),(8,.d (ex (.int .i64 (k:Nat))))],[.var 25 ([OY T V].map .d),.row 63 1 ((List.range k).map fun i=>[Gy (FB V (c % 5) i) (c % 5)])]⟩) ?le ⟨0,by omega,rfl,rfl⟩ ?round
  case le=>exact Aj (by exact Yd<|Yd<|Yp<|FrLe.cons rfl (AVle.own rfl)<|Yd<|FrLe.nil) (by exact Yv<|Yr<|HpLe.nil)
  case round =>
   rintro mz _ ⟨k,hk,rfl,rfl⟩
   by_cases hlt:k<a % 5
   ·have hm := RG (c := (c : Int) % 5) hlt hr (by omega) (by omega)
    have cr:Abs Tryz.prog 27 [BI [OY T V],ex (.int .i64 ((k:Int)*((c:Int) % 5))),ex (.int .i64 ((c:Int) % 5))] (Gy (FB V (c % 5) k) (c % 5)):=by
     rw [hq',hq,Int.mul_zero]
     exact Wz T V 0
    refine Ac<|Y1<|Wm<|Wm ?_;refine Wq BU ?_;refine Wq Bh ?_;refine Wq Ak ?_;apply Y0;refine Ct ?_;refine Ys<|Ac<|AWp.block<|AWp.region<|Wm ?_;refine Wq Ao ?_;refine Wm<|Wm ?_;refine Wq BU ?_;refine Wq Bh ?_;refine Wq (SD (ao rfl) (ao rfl) hm.1 hm.2) ?_;refine Wm ?_;refine Wq BU ?_;refine Wq Bh ?_;refine Wq (Af (cr)) ?_;(refine BO rfl rfl ?_;(refine Cw (Aa rfl) (Aa rfl) rfl rfl rfl rfl rfl ?_;(repeat ((first | refine ⟨_,AH (ao rfl),?_⟩ | refine ⟨_,Po rfl,?_⟩);refine ⟨_,rfl,?_⟩));refine ⟨_,rfl,?_⟩));(refine JE (r2:=[[Gy (FB V (c % 5) k) (c % 5)]]) (ao rfl) rfl rfl (Aa rfl) (Aa rfl) rfl rfl (by simp;omega) (by simp;omega) rfl (by first | ((repeat (first | exact PlainHp.nil | refine PlainHp.var ?_ | refine Da ?_ | refine PlainHp.dead ?_ | refine PlainHp.obj ?_ | refine PlainHp.pin rfl ?_ | refine CL rfl ?_));done) | fail) rfl ?_);refine Wa ?_;apply AWl.nil;apply Ah;refine Yn<|AWp.region<|Wm ?_;refine Wq AQ ?_;refine Wa ?_;apply AWl.nil
    refine ALoop.next (a % 5 - (k+1)) (by omega) ⟨k+1,by omega,rfl,rfl⟩ ?_
    exact Aj (by exact Yd<|Yd<|Yp<|FrLe.cons rfl (AVle.own rfl)<|Yd<|FrLe.nil) (by apply Yv;(refine HpLe.cons (BJ (by rw [List.range_succ,List.map_append];rfl)) ?_);exact HpLe.nil)
   ·obtain rfl : k = a % 5 := by omega
    refine Ac<|Y1<|Wm<|Wm ?_;refine Wq BU ?_;refine Wq Bh ?_;refine Wq Ai ?_;apply Y0;refine Cf ?_;apply AL;apply Aw;apply AD;apply Az;refine Yn<|Y1<|Wm<|Wa<|Y0 ?_;apply As
    exact Yf
 ·have h0 : 0 < c % 5 := by omega
  refine Ab Tryz.func14 fun s0=>?_
  rw [Tryz.ntmps14]
  apply Y1;refine Bx ?_;refine Wa<|Y0<|Y1 ?_;refine CM (Aa rfl) (Aa rfl) rfl rfl rfl rfl rfl ?_;refine Wa<|Y0<|Ac<|Y1<|Wa<|Y0<|AWp.block ?_
  refine AJ (fun mz σ=>∃ k,k≤a % 5∧mz = a % 5 - k∧σ = ⟨[(1,.d (ex (.int .u8 (a:Nat)))),(2,.d (ex (.int .u8 (c:Nat)))),(3,.ptr 0 0),(7,.own 1),(8,.d (ex (.int .i64 (k:Nat))))],[.var 25 ([OY T V].map .d),.row 63 1 ((List.range k).map fun i=>[Gy (FB V (c % 5) i) (c % 5)])]⟩) ?le ⟨0,by omega,rfl,rfl⟩ ?round
  case le=>exact Aj (by exact Yd<|Yd<|Yp<|FrLe.cons rfl (AVle.own rfl)<|Yd<|FrLe.nil) (by exact Yv<|Yr<|HpLe.nil)
  case round =>
   rintro mz _ ⟨k,hk,rfl,rfl⟩
   by_cases hlt:k<a % 5
   ·have hm := RG (c := (c : Int) % 5) hlt hr (by omega) (by omega)
    have hkc:k*(c % 5)≤4*4:=Nat.mul_le_mul (by omega) (by omega)
    refine Ac<|Y1<|Wm<|Wm ?_;refine Wq BU ?_;refine Wq Bh ?_;refine Wq Ak ?_;apply Y0;refine Ct ?_;refine Ys<|Ac<|AWp.block<|AWp.region<|Wm ?_;refine Wq Ao ?_;refine Wm<|Wm ?_;refine Wq BU ?_;refine Wq Bh ?_;refine Wq (SD (ao rfl) (ao rfl) hm.1 hm.2) ?_;refine Wm ?_;refine Wq BU ?_;refine Wq Bh ?_
    refine Fi [] [] (Tg T V hV (k*(c % 5)) (c % 5) h0 (by omega) (by omega)) (.inl rfl) rfl rfl (.inl ⟨rfl,rfl⟩) (by repeat (first | exact ArgsC.nil | refine ArgsC.d rfl (D.le.refl _) ?_ | refine Es rfl rfl ?_)) (by decide) SelR.nil trivial rfl ?_
    rintro _ _ ⟨g,cg,hc1,hc2,rfl,rfl⟩
    refine ⟨_,_,_,(by first | exact AVRen.d | exact AVRen.own rfl | exact AVRen.ptr rfl | exact Et rfl),(by repeat (first | exact SetR.nil | (apply SetR.cons;(first | exact OwRen.dead | exact BP | exact OwRen.obj | exact Ca | exact BQ rfl);exact rfl))),(by repeat (first | exact AppR.nil | (apply AppR.cons;(first | exact OwRen.dead | exact BP | exact OwRen.obj | exact Ca | exact BQ rfl);exact rfl))),?_⟩
    refine SO (Mu (R:=Gy (FB V (c % 5) k) (c % 5)) 5 27 rfl rfl rfl rfl fun s hs v hv=>?_) ?_
    ·obtain rfl:v = .slice (some ⟨g,0,none⟩) (c % 5) cg:=hv
     exact Hset.row (hs _ (List.mem_singleton.2 rfl)) hc1 hc2
    ·(refine BO rfl rfl ?_; (refine Cw (Aa rfl) (Aa rfl) rfl rfl rfl rfl rfl ?_; (repeat ((first | refine ⟨_, AH (ao rfl), ?_⟩ | refine ⟨_, Po rfl, ?_⟩); refine ⟨_, rfl, ?_⟩)); refine ⟨_, rfl, ?_⟩)); (refine JE (r2 := [[Gy (FB V (c % 5) k) (c % 5)]]) (ao rfl) rfl rfl (Aa rfl) (Aa rfl) rfl rfl (by simp; omega) (by simp; omega) rfl (by first | ((repeat (first | exact PlainHp.nil | refine PlainHp.var ?_ | refine Da ?_ | refine PlainHp.dead ?_ | refine PlainHp.obj ?_ | refine PlainHp.pin rfl ?_ | refine CL rfl ?_)); done) | fail) rfl ?_); refine Wa ?_; apply AWl.nil; apply Ah; refine Yn<|AWp.region<|Wm ?_; refine Wq AQ ?_; refine Wa ?_; apply AWl.nil
     refine ALoop.next (a % 5 - (k+1)) (by omega) ⟨k+1,by omega,rfl,rfl⟩ ?_
     exact Aj (by exact Yd<|Yd<|Yp<|FrLe.cons rfl (AVle.own rfl)<|Yd<|FrLe.nil) (by apply Yv;(refine HpLe.cons (BJ (by rw [List.range_succ,List.map_append];rfl)) ?_);exact HpLe.nil)
   ·obtain rfl : k = a % 5 := by omega
    refine Ac<|Y1<|Wm<|Wm ?_;refine Wq BU ?_;refine Wq Bh ?_;refine Wq Ai ?_;apply Y0;refine Cf ?_;apply AL;apply Aw;apply AD;apply Az;refine Yn<|Y1<|Wm<|Wa<|Y0 ?_;apply As
    exact Yf
theorem WY (T : Nat) (V:List Int) (hV:ZV V) (a:Nat) (ha:a<256):Con Tryz.prog 14 [.d (BI [OY T V]),.d (ex (.int .u8 (a:Nat))),.d (ex (.int .u8 (a:Nat)))] [] [] (fun r hp'=>∃ b c:Nat→Nat,(∀ i,i<a % 5→a % 5≤c i∧c i≤9223372036854775807)∧r = .own 2∧hp' = [.dead,.var 25 ([OY T V].map .d),.row 63 1 (FU (a % 5) (a % 5) b c),.obj (BA (El (a % 5) (a % 5) b (FB V (a % 5))))]):=by
 have hr:a % 5≤4:=by omega
 refine Hg Tryz.func14 rfl (AI Tryz.func14 (by kernel_rfl) (by kernel_rfl)) rfl fun s0=>?_
 rw [Tryz.ntmps14]
 apply Y1;refine Bx ?_;refine Wa<|Y0<|Y1 ?_;refine CM (Aa rfl) (Aa rfl) rfl rfl rfl rfl rfl ?_;refine Wa<|Y0<|Ac<|Y1<|Wa<|Y0<|AWp.block ?_
 refine AJ (fun mz σ=>∃ k,k≤a % 5∧mz = a % 5 - k∧∃ b c,(∀ i,i<k→a % 5≤c i∧c i≤9223372036854775807)∧σ = ⟨[(1,.d (ex (.int .u8 (a:Nat)))),(2,.d (ex (.int .u8 (a:Nat)))),(3,.ptr 1 0),(7,.own 2),(8,.d (ex (.int .i64 (k:Nat))))],[.pin [],.var 25 ([OY T V].map .d),.row 63 1 (FU k (a % 5) b c),.obj (BA (El k (a % 5) b (FB V (a % 5))))]⟩) ?le ⟨0,by omega,rfl,fun _=>0,fun _=>0,fun i hi=>absurd hi (Nat.not_lt_zero i),rfl⟩ ?round
 case le =>
  refine JF (VU rfl) ?_
  exact Aj (by exact Yd<|Yd<|Yp<|FrLe.cons rfl (AVle.own rfl)<|Yd<|FrLe.nil) (by exact HpLe.cons (Cb rfl)<|Yv<|Yr<|HpLe.cons (OwLe.obj rfl)<|HpLe.nil)
 case round =>
  rintro mz _ ⟨k,hk,rfl,b,c,hbc,rfl⟩
  by_cases hlt:k<a % 5
  ·have hm := RG (c := (a : Int) % 5) hlt hr (by omega) (by omega)
   have hkc:k*(a % 5)≤4*4:=Nat.mul_le_mul (by omega) (by omega)
   have hrl:(FU k (a % 5) b c).length = k:=by simp [FU]
   refine Ac<|Y1<|Wm<|Wm ?_;refine Wq BU ?_;refine Wq Bh ?_;refine Wq Ak ?_;apply Y0;refine Ct ?_;refine Ys<|Ac<|AWp.block<|AWp.region<|Wm ?_;refine Wq Ao ?_;refine Wm<|Wm ?_;refine Wq BU ?_;refine Wq Bh ?_;refine Wq (SD (ao rfl) (ao rfl) hm.1 hm.2) ?_;refine Wm ?_;refine Wq BU ?_;refine Wq Bh ?_
   refine Fi [] [] (Tg T V hV (k*(a % 5)) (a % 5) (by omega) (by omega) (by omega)) (.inl rfl) rfl rfl (.inl ⟨rfl,rfl⟩) (by repeat (first | exact ArgsC.nil | refine ArgsC.d rfl (D.le.refl _) ?_ | refine Es rfl rfl ?_)) (by decide) SelR.nil trivial rfl ?_
   rintro _ _ ⟨g,cg,hc1,hc2,rfl,rfl⟩
   refine ⟨_,_,_,(by first | exact AVRen.d | exact AVRen.own rfl | exact AVRen.ptr rfl | exact Et rfl),(by repeat (first | exact SetR.nil | (apply SetR.cons;(first | exact OwRen.dead | exact BP | exact OwRen.obj | exact Ca | exact BQ rfl);exact rfl))),(by repeat (first | exact AppR.nil | (apply AppR.cons;(first | exact OwRen.dead | exact BP | exact OwRen.obj | exact Ca | exact BQ rfl);exact rfl))),?_⟩
   (refine BO rfl rfl ?_;(refine Cw (Aa rfl) (Aa rfl) rfl rfl rfl rfl rfl ?_;(repeat ((first | refine ⟨_,AH (ao rfl),?_⟩ | refine ⟨_,Po rfl,?_⟩);refine ⟨_,rfl,?_⟩));refine ⟨_,rfl,?_⟩));(refine JE (r2:=[[sX g (a % 5) cg]]) (ao rfl) rfl rfl (Aa rfl) (Aa rfl) rfl rfl (by rw [hrl];simp;omega) (by rw [hrl];simp;omega) rfl (by first | ((repeat (first | exact PlainHp.nil | refine PlainHp.var ?_ | refine Da ?_ | refine PlainHp.dead ?_ | refine PlainHp.obj ?_ | refine PlainHp.pin rfl ?_ | refine CL rfl ?_));done) | fail) rfl ?_);refine Wa ?_;apply AWl.nil;apply Ah;refine Yn<|AWp.region<|Wm ?_;refine Wq AQ ?_;refine Wa ?_;apply AWl.nil
   refine ALoop.next (a % 5 - (k+1)) (by omega) ⟨k+1,by omega,rfl,GL b k g,GL c k cg,fun i hi=>?_,rfl⟩ ?_
   ·unfold GL
    split
    ·exact ⟨hc1,hc2⟩
    ·exact hbc i (by omega)
   ·refine JF (NN 3 7 (by decide) rfl rfl rfl rfl) ?_
    exact Aj (by exact Yd<|Yd<|Yp<|FrLe.cons rfl (AVle.own rfl)<|Yd<|FrLe.nil) (by refine HpLe.cons (Cb rfl) ?_;apply Yv;refine HpLe.cons (BJ Ru) ?_;refine HpLe.cons (OwLe.obj (congrArg BA (Rt (M:=FB V (a % 5))))) ?_;exact HpLe.nil)
  ·obtain rfl : k = a % 5 := by omega
   refine Ac<|Y1<|Wm<|Wm ?_;refine Wq BU ?_;refine Wq Bh ?_;refine Wq Ai ?_;apply Y0;refine Cf ?_;apply AL;apply Aw;apply AD;apply Az;refine Yn<|Y1<|Wm<|Wa<|Y0 ?_;apply As
   refine FK (RetsA.one rfl) rfl ?_ rfl
   exact ⟨b,c,hbc,rfl,rfl⟩
theorem Vd (M : Nat→Nat→Rat):GZ M 0 0 = M:=by
 funext i j
 rw [GZ,if_neg (by omega)]
theorem Ve (M : Nat→Nat→Rat) {k q:Nat} (h:q<k):Yu (GZ M k q) k q (GZ M k q q k) = GZ M k (q+1):=by
 have e:GZ M k q q k = M q k:=by rw [GZ,if_pos (by omega),Mc,if_neg (by omega)]
 rw [e]
 funext i j
 unfold Yu GL
 by_cases hi:i = k
 ·subst hi
  rw [if_pos rfl]
  by_cases hj:j = q
  ·subst hj
   rw [if_pos rfl,GZ,if_pos (by omega),Mc,if_pos h]
  ·rw [if_neg hj]
   unfold GZ
   by_cases hc:j<q
   ·rw [if_pos (by omega),if_pos (by omega)]
   ·rw [if_neg (by omega),if_neg (by omega)]
 ·rw [if_neg hi]
  unfold GZ
  by_cases hc:i<k
  ·rw [if_pos (by omega),if_pos (by omega)]
  ·rw [if_neg (by omega),if_neg (by omega)]
theorem Xw (M : Nat→Nat→Rat) (k:Nat):GZ M k k = GZ M (k+1) 0:=by
 funext i j
 unfold GZ
 by_cases h:i<k∨(i = k∧j<k)
 ·rw [if_pos h,if_pos (by omega)]
 ·rw [if_neg h]
  by_cases hc:i<k+1
  ·rw [if_pos (.inl hc),Mc,if_neg (by omega)]
  ·rw [if_neg (by omega)]
theorem Zd (T : Nat) (V:List Int) (hV:ZV V) (a:Nat) (ha:a<256):Abs Tryz.prog 15 [BI [OY T V],ex (.int .u8 (a:Nat))] (Ck (a % 5) (a % 5) (Mc (FB V (a % 5)))):=by
 have hn:a % 5≤4:=by omega
 refine Ab Tryz.func15 fun s0=>?_
 rw [Tryz.ntmps15]
 apply Y1;refine Bx ?_;refine Wa<|Y0<|Y1 ?_;refine Wq Ao ?_;refine Wm<|Wm ?_
 refine Fi [] [] (WY T V hV a ha) (.inl rfl) rfl rfl (.inl ⟨rfl,rfl⟩) (by repeat (first | exact ArgsC.nil | refine ArgsC.d rfl (D.le.refl _) ?_ | refine Es rfl rfl ?_)) (by decide) SelR.nil trivial rfl ?_
 rintro _ _ ⟨b,c,hbc,rfl,rfl⟩
 refine ⟨_,_,_,(by first | exact AVRen.d | exact AVRen.own rfl | exact AVRen.ptr rfl | exact Et rfl),(by repeat (first | exact SetR.nil | (apply SetR.cons;(first | exact OwRen.dead | exact BP | exact OwRen.obj | exact Ca | exact BQ rfl);exact rfl))),(by repeat (first | exact AppR.nil | (apply AppR.cons;(first | exact OwRen.dead | exact BP | exact OwRen.obj | exact Ca | exact BQ rfl);exact rfl))),?_⟩
 obtain ⟨n,hna⟩:∃ n,a % 5 = n:=⟨_,rfl⟩
 rw [hna] at hbc hn ⊢
 generalize FB V n = M
 refine Wa<|Y0<|Ac<|Y1<|Wa<|Y0<|AWp.block ?_
 refine AJ (fun mz σ=>∃ k,k≤n∧mz = n - k∧σ = ⟨[(5,.own 3),(6,.d (ex (.int .i64 (k:Nat))))],[.dead,.dead,.dead,.row 63 1 (FU n n b c),.obj (BA (El n n b (GZ M k 0)))]⟩) ?le ⟨0,by omega,rfl,rfl⟩ ?round
 case le=>exact Aj (by exact FrLe.cons rfl (AVle.own rfl)<|Yd<|FrLe.nil) (by exact HpLe.cons (OwLe.dead)<|HpLe.cons (OwLe.dead)<|HpLe.cons (OwLe.dead)<|Yr<|HpLe.cons (OwLe.obj (by rw [Vd]))<|HpLe.nil)
 case round =>
  rintro mz _ ⟨k,hk,rfl,rfl⟩
  by_cases hlt:k<n
  ·refine Ac<|Y1<|Wm<|Wm ?_;refine Wq (Bl rfl (Aa rfl)) ?_;refine Wq Ak ?_;apply Y0;refine Ct ?_;refine Ys<|Ac<|AWp.block<|Y1<|Wa<|Y0<|AWp.block ?_
   refine AJ (fun mz σ=>∃ q,q≤k∧mz = k - q∧σ = ⟨[(5,.own 3),(6,.d (ex (.int .i64 (k:Nat)))),(7,.d (ex (.int .i64 (q:Nat))))],[.dead,.dead,.dead,.row 63 1 (FU n n b c),.obj (BA (El n n b (GZ M k q)))]⟩) ?leq ⟨0,by omega,rfl,rfl⟩ ?roundq
   case leq=>exact Aj (by exact FrLe.cons rfl (AVle.own rfl)<|Yd<|Yd<|FrLe.nil) (by exact HpLe.cons (OwLe.dead)<|HpLe.cons (OwLe.dead)<|HpLe.cons (OwLe.dead)<|Yr<|HpLe.cons (OwLe.obj rfl)<|HpLe.nil)
   case roundq =>
    rintro mz _ ⟨q,hq,rfl,rfl⟩
    by_cases hltq:q<k
    ·have hqn : q < n := by omega
     refine Ac<|Y1<|Wm<|Wm ?_;refine Wq Ak ?_;apply Y0;refine Ct ?_;refine Ys<|Ac<|AWp.block ?_
     refine Dr [[],[],[(23,0),(24,1)],[(25,2)],[],[],[],[(28,5),(29,6)],[(30,7)],[],[(31,8),(32,9)],[(33,10)],[(26,3),(27,4)]] [[],[],[0,1],[0,1,2],[],[],[],[5,6],[5,6,7],[],[5,6,7,8,9],[5,6,7,8,9,10],[0,1,2,3,4,5,6,7,8,9,10,11]] ?_
     refine Xq Ae ?_;refine Xq Ae ?_;refine Xq (AC (k:=k) rfl (ah rfl) (Aa rfl) (Aa rfl) rfl hlt) ?_;refine Xq Bf ?_;refine Xq Ae ?_;refine Xq Ae ?_;refine Xq Ae ?_;refine Xq (AC (k:=q) rfl (ah rfl) (Aa rfl) (Aa rfl) rfl hqn) ?_;refine Xq Bf ?_;refine Xq Ae ?_;refine Xq (Ch (k:=k) (ah rfl) (ah rfl) (Aa rfl) (Aa rfl) hlt) ?_;refine Xq (Er (e:=⟨b q,54,BE (GZ M k q q) n⟩) 4 q (ah rfl) rfl (Pq hqn) (Aa rfl) rfl (BY hlt)) ?_;refine Xq (Ch (k:=q) (ah rfl) (ah rfl) (Aa rfl) (Aa rfl) hqn) ?_;refine ⟨_,rfl,?_⟩
     refine JD (e:=⟨b k,54,BE (GZ M k q k) n⟩) 4 k (ao rfl) (ao rfl) rfl (Pq hlt) (Aa rfl) rfl (IJ hqn) rfl ?_;apply AWl.nil;apply Ah;refine Yn<|AWp.region<|Wm ?_;refine Wq AQ ?_;refine Wa ?_;apply AWl.nil
     refine ALoop.next (k - (q+1)) (by omega) ⟨q+1,by omega,rfl,rfl⟩ ?_
     exact Aj (by exact FrLe.cons rfl (AVle.own rfl)<|Yd<|Yd<|FrLe.nil) (by exact HpLe.cons (OwLe.dead)<|HpLe.cons (OwLe.dead)<|HpLe.cons (OwLe.dead)<|Yr<|HpLe.cons (OwLe.obj (by rw [Ud hlt,Ve M hltq]))<|HpLe.nil)
    ·obtain rfl : k = q := by omega
     refine Ac<|Y1<|Wm<|Wm ?_;refine Wq Ai ?_;apply Y0;refine Cf ?_;apply AL;apply Aw;apply AD;apply Az;apply Ah;refine Yn<|AWp.region<|Wm ?_;refine Wq AQ ?_;refine Wa ?_;apply AWl.nil
     refine ALoop.next (n - (k+1)) (by omega) ⟨k+1,by omega,rfl,rfl⟩ ?_
     exact Aj (by exact FrLe.cons rfl (AVle.own rfl)<|Yd<|FrLe.nil) (by exact HpLe.cons (OwLe.dead)<|HpLe.cons (OwLe.dead)<|HpLe.cons (OwLe.dead)<|Yr<|HpLe.cons (OwLe.obj (by rw [Xw]))<|HpLe.nil)
  ·obtain rfl : n = k := by omega
   refine Mt (Mu (R:=Ck n n (Mc M)) 4 5 rfl rfl rfl rfl fun s hs v hv=>Ww (M:=Mc M) (fun e he=>hs e ?_) hbc hv) ?_
   ·rwa [Pp (M:=GZ M n 0) (M':=Mc M) fun i hi j hj=>by rw [GZ,if_pos (by omega)]]
   ·refine Ac<|Y1<|Wm<|Wm ?_;refine Wq (Bl rfl (Aa rfl)) ?_;refine Wq Ai ?_;apply Y0;refine Cf ?_;apply AL;apply Aw;apply AD;apply Az;refine Yn<|Y1<|Wm<|Wa<|Y0 ?_;apply As
    exact Yf
structure Sr where
 q:Qr
 T:Nat
 X:List (Nat→Int)
instance : Inhabited Sr:=⟨⟨default,0,[]⟩⟩
def Sr.Ok (s : Sr):Prop:=s.q.Ok∧XF s.X
def srC (s : Sr):List D:=qrC s.q ++ [r5D s.T s.X]
def srD (T : Nat) (L:List Sr):D:=slD T 4 (L.map srC)
def PP (signs : Bool) (q:Rat):Rat:=if q.num.sign<0∧signs = false then -q else q
def HD (signs : Bool) (s:Sr):Sq:=⟨PP signs (DY s.q),PN s.X 2 2 3⟩
def FW (signs : Bool) (L:List Sr) (n:Nat):List Sq:=(L.take n).map (HD signs)
theorem RK {signs : Bool} {L:List Sr} {n:Nat} (h:n<L.length):FW signs L (n+1) = FW signs L n ++ [HD signs (L.getD n default)]:=by
 unfold FW
 rw [List.take_succ_eq_append_getElem h,List.map_append,List.getD_eq_getElem?_getD,List.getElem?_eq_getElem h]
 rfl
theorem Jd {signs : Bool} {L:List Sr} {n:Nat}:(FW signs L n).length = min n L.length:=by
 unfold FW
 rw [List.length_map,List.length_take]
theorem Xc {signs : Bool} {q:Rat} {N:Nat} (h:RSz q N):RSz (PP signs q) N:=by
 unfold PP
 split
 ·exact h.neg
 ·exact h
theorem Xa {signs : Bool} {s:Sr} (h:s.Ok):PB (HD signs s).p 3 9 2∧RSz (HD signs s).a 10:=⟨Xb s.X 2 3 (by omega),Xc (PM h.1)⟩
theorem YX {signs : Bool} {L:List Sr} (h:∀ s∈L,s.Ok) (n:Nat):ZU (FW signs L n) 3 9 10 2:=fun s hs=>by
 obtain ⟨r,hr,rfl⟩:=List.mem_map.1 hs
 exact Xa (h r (List.mem_of_mem_take hr))
theorem Sg (T : Nat) (L:List Sr) (signs:Bool) (h:∀ s∈L,s.Ok) (m:Nat) (hm:m≤1000):Abs Tryz.prog 8 [srD T L,ex (.int .i64 (m:Nat)),ex (.bool signs)] (FM (FW signs L m)):=by
 refine Ab Tryz.func8 fun s0=>?_
 rw [Tryz.ntmps8]
 refine Y1<|Wa<|Y0<|Y1 ?_;refine CM (Aa rfl) (Aa rfl) rfl rfl rfl rfl rfl ?_;refine Wa<|Y0<|Ac<|Y1<|Wa<|Y0<|AWp.block ?_
 refine AJ (fun mz σ=>∃ k,k≤min L.length m∧mz = min L.length m - k∧σ = ⟨[(0,.d (srD T L)),(1,.d (ex (.int .i64 (m:Nat)))),(2,.d (ex (.bool signs))),(7,.own 0),(8,.d (ex (.int .i64 (k:Nat))))],[.row 56 5 ((FW signs L k).map Yw)]⟩) ?le ⟨0,by omega,rfl,rfl⟩ ?round
 case le=>exact Aj (by exact Yd<|Yd<|Yd<|FrLe.cons rfl (AVle.own rfl)<|Yd<|FrLe.nil) (by exact Yr<|HpLe.nil)
 case round =>
  rintro mz _ ⟨k,hk,rfl,rfl⟩
  by_cases hlt:k<min L.length m
  ·have hkL : k < L.length := by omega
   have hkm:k<m:=by omega
   have hlen:(FW signs L k).length = min k L.length:=Jd
   have hr:L.getD k default∈L:=by
    rw [List.getD_eq_getElem?_getD,List.getElem?_eq_getElem hkL]
    exact List.getElem_mem _
   have hok:=h _ hr
   have e1:=RK (signs:=signs) hkL
   have cm:=MX (L.getD k default).q hok.1
   have cp:=Vx (L.getD k default).T (L.getD k default).X 2 3 2 hok.2 (by omega) (by omega) (by omega) (by omega)
   by_cases hn:(DY (L.getD k default).q).num.sign<0∧signs = false
   ·have ea : HD signs (L.getD k default) = ⟨-DY (L.getD k default).q, PN (L.getD k default).X 2 2 3⟩ := by rw [HD, PP, if_pos hn]
    obtain ⟨hneg,rfl⟩:=hn
    refine Ac<|Y1<|Wm<|Wm ?_;refine Wq AR ?_;refine Wq Ak ?_;refine Wm ?_;refine Wg Ae ?_;refine Wg Ae ?_;refine Wg Ak ?_;refine Wq AO ?_;apply Y0;refine Ct ?_;refine Ys<|Ac<|AWp.block<|Y1<|Wm<|Wm ?_;refine Wq AK ?_;refine Wq Bn ?_;refine Wq DH ?_;refine Wq (Af (cm)) ?_;refine Al ?_;refine Sf ?_;refine Y0<|Ac<|Y1 ?_;refine Wq Ao ?_;refine Wq (Af (Bt (DY (L.getD k default).q))) ?_;refine Wq Ak ?_;refine Wm ?_;refine Wg Ae ?_;refine Wg Bj ?_;refine Wq AO ?_;apply Y0;refine Ct ?_;apply AWp.region;refine Wq Ao ?_;refine Wq (Af (Vw (DY (L.getD k default).q))) ?_;refine Sf ?_;apply Y0
    refine Dr [[],[],[],[],[(39,2),(40,3)],[(41,4)],[(42,5)],[(43,6)],[(38,1),(44,7)],[(45,8)]] [[],[],[],[],[2,3],[2,3,4],[2,3,4,5],[2,3,4,5,6],[1,2,3,4,5,6,7],[1,2,3,4,5,6,7,8]] ?_
    refine Xq Ae ?_;refine Xq Ao ?_;refine Xq Ae ?_;refine Xq Ae ?_;refine Xq AK ?_;refine Xq Bn ?_;refine Xq At ?_;refine Xq (Af (cp)) ?_;(refine Hq rfl ?_;refine BK (Aa rfl) rfl rfl rfl ?_;(repeat ((first | refine ⟨_,AH (ah rfl),?_⟩ | refine ⟨_,Po rfl,?_⟩);refine ⟨_,rfl,?_⟩));refine ⟨_,rfl,?_⟩;refine ⟨_,rfl,?_⟩);(refine Xq (Bv (ah rfl) (Aa rfl) (Aa rfl) rfl rfl rfl rfl rfl) ?_);refine ⟨_,rfl,?_⟩
    (refine Ap ?_);refine Wa ?_;apply AWl.nil;apply Ah;refine Yn<|AWp.region<|Wm ?_;refine Wq AQ ?_;refine Wa ?_;apply AWl.nil
    refine ALoop.next (min L.length m - (k+1)) (by omega) ⟨k+1,by omega,rfl,rfl⟩ ?_
    exact Aj (by exact Yd<|Yd<|Yd<|FrLe.cons rfl (AVle.own rfl)<|Yd<|FrLe.nil) (by (refine HpLe.cons (BJ (by rw [e1,List.map_append,ea];rfl)) ?_);exact HpLe.nil)
   ·have ea : HD signs (L.getD k default) = ⟨DY (L.getD k default).q, PN (L.getD k default).X 2 2 3⟩ := by rw [HD, PP, if_neg hn]
    by_cases hneg:(DY (L.getD k default).q).num.sign<0
    ·obtain rfl:signs = true:=by
      cases signs
      ·exact absurd ⟨hneg,rfl⟩ hn
      ·rfl
     refine Ac<|Y1<|Wm<|Wm ?_;refine Wq AR ?_;refine Wq Ak ?_;refine Wm ?_;refine Wg Ae ?_;refine Wg Ae ?_;refine Wg Ak ?_;refine Wq AO ?_;apply Y0;refine Ct ?_;refine Ys<|Ac<|AWp.block<|Y1<|Wm<|Wm ?_;refine Wq AK ?_;refine Wq Bn ?_;refine Wq DH ?_;refine Wq (Af (cm)) ?_;refine Al ?_;refine Sf ?_;refine Y0<|Ac<|Y1 ?_;refine Wq Ao ?_;refine Wq (Af (Bt (DY (L.getD k default).q))) ?_;refine Wq Ak ?_;refine Wm ?_;refine Wg Ae ?_;refine Wg Bj ?_;refine Wq AO ?_;apply Y0;refine Cf ?_;apply Ys
     refine Dr [[],[],[],[],[(39,2),(40,3)],[(41,4)],[(42,5)],[(43,6)],[(38,1),(44,7)],[(45,8)]] [[],[],[],[],[2,3],[2,3,4],[2,3,4,5],[2,3,4,5,6],[1,2,3,4,5,6,7],[1,2,3,4,5,6,7,8]] ?_
     refine Xq Ae ?_;refine Xq Ao ?_;refine Xq Ae ?_;refine Xq Ae ?_;refine Xq AK ?_;refine Xq Bn ?_;refine Xq At ?_;refine Xq (Af (cp)) ?_;(refine Hq rfl ?_;refine BK (Aa rfl) rfl rfl rfl ?_;(repeat ((first | refine ⟨_,AH (ah rfl),?_⟩ | refine ⟨_,Po rfl,?_⟩);refine ⟨_,rfl,?_⟩));refine ⟨_,rfl,?_⟩;refine ⟨_,rfl,?_⟩);(refine Xq (Bv (ah rfl) (Aa rfl) (Aa rfl) rfl rfl rfl rfl rfl) ?_);refine ⟨_,rfl,?_⟩
     (refine Ap ?_);refine Wa ?_;apply AWl.nil;apply Ah;refine Yn<|AWp.region<|Wm ?_;refine Wq AQ ?_;refine Wa ?_;apply AWl.nil
     refine ALoop.next (min L.length m - (k+1)) (by omega) ⟨k+1,by omega,rfl,rfl⟩ ?_
     exact Aj (by exact Yd<|Yd<|Yd<|FrLe.cons rfl (AVle.own rfl)<|Yd<|FrLe.nil) (by (refine HpLe.cons (BJ (by rw [e1,List.map_append,ea];rfl)) ?_);exact HpLe.nil)
    ·refine Ac<|Y1<|Wm<|Wm ?_;refine Wq AR ?_;refine Wq Ak ?_;refine Wm ?_;refine Wg Ae ?_;refine Wg Ae ?_;refine Wg Ak ?_;refine Wq AO ?_;apply Y0;refine Ct ?_;refine Ys<|Ac<|AWp.block<|Y1<|Wm<|Wm ?_;refine Wq AK ?_;refine Wq Bn ?_;refine Wq DH ?_;refine Wq (Af (cm)) ?_;refine Al ?_;refine Sf ?_;refine Y0<|Ac<|Y1 ?_;refine Wq Ao ?_;refine Wq (Af (Bt (DY (L.getD k default).q))) ?_;refine Wq Ai ?_;refine Wm ?_;refine Ws ?_;refine Ws ?_;refine Wq AG ?_;apply Y0;refine Cf ?_;apply Ys
     refine Dr [[],[],[],[],[(39,2),(40,3)],[(41,4)],[(42,5)],[(43,6)],[(38,1),(44,7)],[(45,8)]] [[],[],[],[],[2,3],[2,3,4],[2,3,4,5],[2,3,4,5,6],[1,2,3,4,5,6,7],[1,2,3,4,5,6,7,8]] ?_
     refine Xq Ae ?_;refine Xq Ao ?_;refine Xq Ae ?_;refine Xq Ae ?_;refine Xq AK ?_;refine Xq Bn ?_;refine Xq At ?_;refine Xq (Af (cp)) ?_;(refine Hq rfl ?_;refine BK (Aa rfl) rfl rfl rfl ?_;(repeat ((first | refine ⟨_,AH (ah rfl),?_⟩ | refine ⟨_,Po rfl,?_⟩);refine ⟨_,rfl,?_⟩));refine ⟨_,rfl,?_⟩;refine ⟨_,rfl,?_⟩);(refine Xq (Bv (ah rfl) (Aa rfl) (Aa rfl) rfl rfl rfl rfl rfl) ?_);refine ⟨_,rfl,?_⟩
     (refine Ap ?_);refine Wa ?_;apply AWl.nil;apply Ah;refine Yn<|AWp.region<|Wm ?_;refine Wq AQ ?_;refine Wa ?_;apply AWl.nil
     refine ALoop.next (min L.length m - (k+1)) (by omega) ⟨k+1,by omega,rfl,rfl⟩ ?_
     exact Aj (by exact Yd<|Yd<|Yd<|FrLe.cons rfl (AVle.own rfl)<|Yd<|FrLe.nil) (by (refine HpLe.cons (BJ (by rw [e1,List.map_append,ea];rfl)) ?_);exact HpLe.nil)
  ·obtain rfl : k = min L.length m := by omega
   have e2:FW signs L (min L.length m) = FW signs L m:=by
    unfold FW
    rw [show L.take (min L.length m) = L.take m from by
     rcases Nat.le_total L.length m with h | h
     ·rw [Nat.min_eq_left h,List.take_length,List.take_of_length_le h]
     ·rw [Nat.min_eq_right h]]
   rcases (show L.length≤m∨m<L.length by omega) with ht | ht
   ·refine Ac<|Y1<|Wm<|Wm ?_;refine Wq AR ?_;refine Wq Ai ?_;refine Wm ?_;refine Ws ?_;refine Ws ?_;refine Ws ?_;refine Wq AG ?_;apply Y0;refine Cf ?_;apply AL;apply Aw;apply AD;apply Az;refine Yn<|Y1<|Wm<|Wa<|Y0 ?_;apply As
    exact AT (Rets.of1 (ResV.tmp rfl rfl) (Bd (by rw [← e2];rfl)))
   ·refine Ac<|Y1<|Wm<|Wm ?_;refine Wq AR ?_;refine Wq Ak ?_;refine Wm ?_;refine Wg Ae ?_;refine Wg Ae ?_;refine Wg Ai ?_;refine Wq AO ?_;apply Y0;refine Cf ?_;apply AL;apply Aw;apply AD;apply Az;refine Yn<|Y1<|Wm<|Wa<|Y0 ?_;apply As
    exact AT (Rets.of1 (ResV.tmp rfl rfl) (Bd (by rw [← e2];rfl)))
def m2 (a b c d:Int) (i j:Nat):Rat:=if i = 0 then if j = 0 then (a:Rat) else (b:Rat) else if j = 0 then (c:Rat) else (d:Rat)
theorem FA (a b c d:Int) (ha:-1000≤a∧a≤1000) (hb:-1000≤b∧b≤1000) (hc:-1000≤c∧c≤1000) (hd:-1000≤d∧d≤1000):Abs Tryz.prog 39 [ex (.int .i64 a),ex (.int .i64 b),ex (.int .i64 c),ex (.int .i64 d)] (Ck 2 2 (m2 a b c d)):=by
 refine Ab Tryz.func39 fun s0=>?_
 rw [Tryz.ntmps39]
 refine Y1<|Wa<|Y0<|Y1<|Wm ?_;refine Wq (Af (BF a (by omega) (by omega))) ?_;refine Wm ?_;refine Wq (Af (BF b (by omega) (by omega))) ?_;(refine BO rfl rfl ?_;(refine Cw (Aa rfl) (Aa rfl) rfl rfl rfl rfl rfl ?_;(repeat ((first | refine ⟨_,AH (ao rfl),?_⟩ | refine ⟨_,Po rfl,?_⟩);refine ⟨_,rfl,?_⟩));refine ⟨_,rfl,?_⟩));refine Wm ?_;refine Wq (Af (BF c (by omega) (by omega))) ?_;refine Wm ?_;refine Wq (Af (BF d (by omega) (by omega))) ?_;(refine BO rfl rfl ?_;(refine Cw (Aa rfl) (Aa rfl) rfl rfl rfl rfl rfl ?_;(repeat ((first | refine ⟨_,AH (ao rfl),?_⟩ | refine ⟨_,Po rfl,?_⟩);refine ⟨_,rfl,?_⟩));refine ⟨_,rfl,?_⟩));(refine BO rfl rfl ?_;(refine Cw (Aa rfl) (Aa rfl) rfl rfl rfl rfl rfl ?_;(repeat ((first | refine ⟨_,AH (ao rfl),?_⟩ | refine ⟨_,Po rfl,?_⟩);refine ⟨_,rfl,?_⟩));refine ⟨_,rfl,?_⟩));refine Wa<|Y0 ?_;apply As
 exact AT (Rets.of1 (ResV.tmp rfl rfl) (Bd rfl))
theorem Ng {a b c d:Int} (ha:-1000≤a∧a≤1000) (hb:-1000≤b∧b≤1000) (hc:-1000≤c∧c≤1000) (hd:-1000≤d∧d≤1000) (i j:Nat):RSz (m2 a b c d i j) 1:=by
 unfold m2
 split <;> split <;> exact Fu (by omega) (by omega)
theorem Wu (c : Rat) (P:List Tm):Sim (Eg c P) (scl c P):=by
 unfold Eg
 split
 ·rename_i h
  intro f _
  rw [TC,h,Rat.zero_mul]
  rfl
 ·unfold Mv scl
  rw [List.map_congr_left fun t _=>by rw [Gu]]
  exact Sim.refl _
abbrev Fx : List Tm:=CX [⟨1,Gv 0⟩] (Dp (1:Int))
abbrev Nc : List (Nat→Int):=[Gv 0,fun _=>0]
theorem Og : ∀ m∈Nc,In8 m 0 1:=fun m hm=>by
 rcases List.mem_cons.1 hm with rfl | hm
 ·exact Hs
 ·rw [List.mem_singleton.1 hm]
  exact fun i _=>⟨Int.le_refl _,Int.zero_le_ofNat 1⟩
theorem KS {f : (Nat→Int)→Rat} (hf:XE f) (P Q:List Tm):DF f (CX P Q) = DF f P+DF f Q:=(GO P Q f hf).trans (Do f P Q)
theorem Qa {f : (Nat→Int)→Rat} (hf:XE f) (c:Rat) (P:List Tm):DF f (Eg c P) = c*DF f P:=(Wu c P f hf).trans (TC f c P)
theorem LW : Dp ((-1:Int):Rat) = [⟨-1,fun _=>0⟩]:=by
 rw [Dp,if_neg (by decide +kernel)]
 rfl
theorem A14 : Dj Nc (m2 1 1 1 2) 2 2 = [⟨1,Fx⟩,⟨1,Dp (1:Int)⟩]:=by
 have e0:AE (m2 1 1 1 2) 0 0 0 = 1:=by decide +kernel
 have e1:AE (m2 1 1 1 2) 0 0 1 = 1:=by decide +kernel
 have e2:AE (m2 1 1 1 2) 1 1 1 = 1:=by decide +kernel
 have e3:AE (m2 1 1 1 2) 1 1 0 = 0:=by decide +kernel
 have z:¬ (1:Rat) = 0:=by decide +kernel
 have d:(1:Rat) / 1 = 1:=by decide +kernel
 have s1:KD Nc (AE (m2 1 1 1 2) 0 0) 1 2 = Fx:=by
  show (if AE (m2 1 1 1 2) 0 0 1 = 0 then _ else CX (if AE (m2 1 1 1 2) 0 0 0 = 0 then _ else CX [] [⟨AE (m2 1 1 1 2) 0 0 0 / 1,Gv 0⟩]) [⟨AE (m2 1 1 1 2) 0 0 1 / 1,fun _=>0⟩]) = _
  rw [e0,e1,if_neg z,if_neg z,d,EZ,Fx,FE]
 have s2:KD Nc (AE (m2 1 1 1 2) 1 1) 1 2 = Dp (1:Int):=by
  show (if AE (m2 1 1 1 2) 1 1 1 = 0 then _ else CX (if AE (m2 1 1 1 2) 1 1 0 = 0 then [] else _) [⟨AE (m2 1 1 1 2) 1 1 1 / 1,fun _=>0⟩]) = _
  rw [e2,e3,if_neg z,if_pos rfl,d,EZ,FE]
 show (if AE (m2 1 1 1 2) 1 1 1 = 0 then _ else (if AE (m2 1 1 1 2) 0 0 0 = 0 then _ else ([]:List Sq) ++ [(⟨AE (m2 1 1 1 2) 0 0 0,KD Nc (AE (m2 1 1 1 2) 0 0) (AE (m2 1 1 1 2) 0 0 0) 2⟩:Sq)]) ++ [(⟨AE (m2 1 1 1 2) 1 1 1,KD Nc (AE (m2 1 1 1 2) 1 1) (AE (m2 1 1 1 2) 1 1 1) 2⟩:Sq)]) = _
 rw [e0,e2,if_neg z,if_neg z,s1,s2]
 rfl
theorem A13 : Dj Nc (m2 0 0 0 3) 2 2 = [⟨(3:Int),Dp (1:Int)⟩]:=by
 have e0:AE (m2 0 0 0 3) 0 0 0 = 0:=by decide +kernel
 have e2:AE (m2 0 0 0 3) 1 1 1 = (3:Int):=by decide +kernel
 have e3:AE (m2 0 0 0 3) 1 1 0 = 0:=by decide +kernel
 have z:¬ ((3:Int):Rat) = 0:=by decide +kernel
 have d:((3:Int):Rat) / ((3:Int):Rat) = 1:=by decide +kernel
 have s2:KD Nc (AE (m2 0 0 0 3) 1 1) (3:Int) 2 = Dp (1:Int):=by
  show (if AE (m2 0 0 0 3) 1 1 1 = 0 then _ else CX (if AE (m2 0 0 0 3) 1 1 0 = 0 then [] else _) [⟨AE (m2 0 0 0 3) 1 1 1 / (3:Int),fun _=>0⟩]) = _
  rw [e2,e3,if_neg z,if_pos rfl,d,EZ,FE]
 show (if AE (m2 0 0 0 3) 1 1 1 = 0 then _ else (if AE (m2 0 0 0 3) 0 0 0 = 0 then [] else _) ++ [(⟨AE (m2 0 0 0 3) 1 1 1,KD Nc (AE (m2 0 0 0 3) 1 1) (AE (m2 0 0 0 3) 1 1 1) 2⟩:Sq)]) = _
 rw [e0,e2,if_neg z,if_pos rfl,s2]
 rfl
theorem Ld {p : Nat→Prop} (h0:p 0) (h1:p 1):∀ k,k<2→p k:=fun k hk=>by
 match k,hk with
 | 0,_=>exact h0
 | 1,_=>exact h1
theorem A1l : ∀ k,k<2→HI (m2 1 1 1 2) 2 k:=Ld ⟨by decide +kernel,fun h=>absurd h (by decide +kernel)⟩ ⟨by decide +kernel,fun h=>absurd h (by decide +kernel)⟩
theorem A1k : ∀ k,k<2→HI (m2 0 0 0 3) 2 k:=Ld ⟨by decide +kernel,fun _=>Ld (by decide +kernel) (by decide +kernel)⟩ ⟨by decide +kernel,fun h=>absurd h (by decide +kernel)⟩
theorem sy2 {a b d:Int}:∀ i,i<2→∀ j,j<i→m2 a b b d i j = m2 a b b d j i:=Ld (fun j h=>absurd h (Nat.not_lt_zero j)) fun j h=>by
 obtain rfl:j = 0:=by omega
 rfl
theorem UL : Abs Tryz.prog 17 [Hp Nc,Ck 2 2 (m2 1 1 1 2)] (CE [FM [⟨1,Fx⟩,⟨1,Dp (1:Int)⟩],ex (.int .i64 0)]):=by
 have:=Tw 2 1 1 Nc (m2 1 1 1 2) (by omega) (by omega) rfl Og (by omega) (Ng (by omega) (by omega) (by omega) (by omega)) (by decide) sy2 A1l
 rwa [A14] at this
theorem UK : Abs Tryz.prog 17 [Hp Nc,Ck 2 2 (m2 0 0 0 3)] (CE [FM [⟨(3:Int),Dp (1:Int)⟩],ex (.int .i64 0)]):=by
 have:=Tw 2 1 1 Nc (m2 0 0 0 3) (by omega) (by omega) rfl Og (by omega) (Ng (by omega) (by omega) (by omega) (by omega)) (by decide) sy2 A1k
 rwa [A13] at this
theorem UJ : Abs Tryz.prog 17 [Hp Nc,Ck 2 2 (m2 0 1 1 2)] (CE [FM [],ex (.int .i64 280)]) :=
 UD 2 1 1 Nc (m2 0 1 1 2) (by omega) (by omega) rfl Og (by omega) (Ng (by omega) (by omega) (by omega) (by omega)) (by decide) sy2 0 (by omega) (fun k h=>absurd h (Nat.not_lt_zero k)) (by decide +kernel) 1 (by omega) (fun j h=>by obtain rfl:j = 0:=(by omega);decide +kernel) (by decide +kernel)
theorem UI : Abs Tryz.prog 17 [Hp Nc,Ck 2 2 (m2 1 2 2 1)] (CE [FM [],ex (.int .i64 280)]) :=
 Xj 2 1 1 Nc (m2 1 2 2 1) (by omega) (by omega) rfl Og (by omega) (Ng (by omega) (by omega) (by omega) (by omega)) (by decide) sy2 1 (by omega) (fun k h=>by obtain rfl:k = 0:=(by omega);exact ⟨by decide +kernel,fun h=>absurd h (by decide +kernel)⟩) (by decide +kernel)
theorem UH : Abs Tryz.prog 17 [Hp Nc,Ck 2 2 (m2 1 2 3 4)] (CE [FM [],ex (.int .i64 112)]) :=
 PV 2 1 (by omega) (by omega) 1 Nc (m2 1 2 3 4) rfl (Ng (by omega) (by omega) (by omega) (by omega)) (by decide) 1 0 (by omega) (by omega) (fun i hi j hj=>by omega) (fun j hj=>absurd hj (Nat.not_lt_zero j)) (by decide +kernel)
theorem UG : Abs Tryz.prog 17 [Hp [Gv 0],Ck 1 2 (m2 1 0 0 0)] (CE [FM [],ex (.int .i64 1)]) :=
 Nj 2 1 1 (by omega) (by omega) (by omega) (by omega) 1 [Gv 0] (m2 1 0 0 0) rfl (Ng (by omega) (by omega) (by omega) (by omega)) (by decide)
end Go.Proofs.YtnhgojfjmhjokaaGreat
