/- Part 19 of the proof of squaresRows_holds. No condition. -/
import Derived.Scope
import Derived.Test.YtnhgojfjmhjokaaGreatSw17
import Derived.Test.YtnhgojfjmhjokaaGreatSw18
set_option linter.unusedSimpArgs false
set_option linter.unusedVariables false
set_option maxRecDepth 100000
set_option maxHeartbeats 8000000
namespace Go.Proofs.YtnhgojfjmhjokaaGreat
open Go.RowKit
def A1E (Q : Exit→AS→Prop):Exit→AS→Prop
 | .goto _,_=>False
 | e,σ=>Q e σ
structure ANo (Q : Exit→AS→Prop) (e:Exit) (σ:AS):Prop where
 run:A1E Q e σ
section
variable {P : Program} {s0:An} {n:Nat} {Q:Exit→AS→Prop} {σ:AS}
theorem NU {c : Code} (h:AWp P s0 n c (ANo Q) σ):AWp P s0 n (.scope c) Q σ:=⟨fun a w hs=>wp_scope_straight (wp_mono (h.run a w hs) fun e a' w' ⟨σ',⟨h1⟩,h2⟩=>by
 cases e with
 | goto l=>exact h1.elim
 | _=>exact ⟨σ',h1,h2⟩)⟩
theorem NV {l : Nat} (h:Q .normal σ):AWp P s0 n (.label l) Q σ:=⟨fun _ _ hs=>wp_label ⟨σ,h,hs⟩⟩
theorem ANo.ret (h : Q .ret σ):ANo Q .ret σ:=⟨h⟩
end
theorem TJ (p q:Rat) (N M:Nat) (hp:RSz p N) (hq:RSz q M) (hN:N+M≤4398046511104) (h0:q.num ≠ 0):Abs Tryz.prog 94 [BF (BH p),BF (BH q)] (Da [BF (BH (p / q)),ex (.int .i64 0)]):=by
 refine Be (AG Tryz.func94 (by kernel_rfl) (by kernel_rfl)) fun s vs hok hl hv=>?_
 rw [MD hl]
 obtain ⟨x0,x0',X0,X0',n0,c0,n0',c0',e0,h0'⟩:=Cl (hv 0 (by simp))
 obtain ⟨x1,x1',X1,X1',n1,c1,n1',c1',e1,h1⟩:=Cl (hv 1 (by simp))
 rw [e0,e1]
 exact (ZG x0 x0' X0 X0' n0 c0 n0' c0' x1 x1' X1 X1' n1 c1 n1' c1' p q N M _ h0' h1 hp hq hN h0).mono fun e w' ⟨y,y',Y,Y',m,k,m',k',he,hI,hE⟩=>⟨_,he,hE,fun s' hw hok' _ _=>by subst hw;exact A06 (FP hok' hI) rfl⟩
theorem Zk (p q:Rat) (N M:Nat) (hp:RSz p N) (hq:RSz q M) (hN:N+M+1≤4398046511104):Abs Tryz.prog 95 [BF (BH p),BF (BH q)] (BF (BH (p - q))):=by
 refine Be (AG Tryz.func95 (by kernel_rfl) (by kernel_rfl)) fun s vs hok hl hv=>?_
 rw [MD hl]
 obtain ⟨x0,x0',X0,X0',n0,c0,n0',c0',e0,h0⟩:=Cl (hv 0 (by simp))
 obtain ⟨x1,x1',X1,X1',n1,c1,n1',c1',e1,h1⟩:=Cl (hv 1 (by simp))
 rw [e0,e1]
 exact (Zj x0 x0' X0 X0' n0 c0 n0' c0' x1 x1' X1 X1' n1 c1 n1' c1' p q N M _ h0 h1 hp hq hN).mono fun e w' ⟨y,y',Y,Y',m,k,m',k',he,hI,hE⟩=>⟨_,he,hE,fun s' hw hok' _ _=>by subst hw;exact FP hok' hI⟩
open Classical in
theorem PK (q : Rat) (N:Nat) (h:RSz q N) (hN:N≤1000000000):Abs Tryz.prog 92 [BF (BH q)] (ex (.bool true)):=by
 have hq:TG (decide (q.num<0)) (Ah q.num.natAbs) (decide ((q.den:Int)<0)) (Ah (q.den:Int).natAbs):=⟨q,rfl,rfl,rfl,rfl⟩
 have:=RD (decide (q.num<0)) (Ah q.num.natAbs) (decide ((q.den:Int)<0)) (Ah (q.den:Int).natAbs) (Bm _) (Bm _) (Nat.le_trans h.1 hN) (Nat.le_trans h.2 hN)
 rw [decide_eq_true hq] at this
 exact this
structure Sq where
 a:Rat
 p:List Tm
instance : Inhabited Sq:=⟨⟨0,[]⟩⟩
def sqC (s : Sq):List D:=BH s.a ++ [Bi s.p]
def Io (L : List Sq):D:=slD 56 5 (L.map sqC)
def Og (L : List Sq) (k:Nat):Sq:=L.getD k default
theorem IZ {L : List Sq} {k:Nat} (h:k<L.length):Og L k∈L:=by
 unfold Og
 rw [List.getD_eq_getElem?_getD,List.getElem?_eq_getElem h]
 exact List.getElem_mem _
theorem Nz {α : Type} (f:α→Sq→α) (b:α) {L:List Sq} {k:Nat} (h:k<L.length):(L.take (k+1)).foldl f b = f ((L.take k).foldl f b) (Og L k):=by
 rw [List.take_succ_eq_append_getElem h,List.foldl_append]
 simp [Og,List.getD_eq_getElem?_getD,List.getElem?_eq_getElem h]
def SqB (L : List Sq) (n N K:Nat) (d:Int):Prop:=∀ s∈L,PB s.p n N d∧RSz s.a K
theorem JH (L : List Sq) (hn:L.length≤100000) (h:∀ k,k<L.length→0≤(Og L k).a.num.sign):Abs Tryz.prog 12 [Io L] (ex (.bool true)):=by
 refine Ab Tryz.func12 fun s0=>?_
 rw [Tryz.ntmps12]
 refine Y1<|Wa<|Y0<|Ac<|Y1<|Wm ?_;refine Wq AH ?_;refine Wm<|Y0<|AWp.block ?_
 refine Ba (fun mz σ=>∃ k,k≤L.length∧mz = L.length - k∧σ = ⟨[(5,.d (Io L)),(6,.d (ex (.int .i64 (L.length:Nat)))),(7,.d (ex (.int .i64 (k:Nat))))],[]⟩) ?le ⟨0,by omega,rfl,rfl⟩ ?round
 case le=>exact Aq (by exact Yd<|Yd<|Yd<|FrLe.nil) (by exact HpLe.nil)
 case round =>
  rintro mz _ ⟨k,hk,rfl,rfl⟩
  by_cases hlt:k<L.length
  ·have hk2:=h k hlt
   apply Y1;refine Wq Am ?_;refine Y0<|Ac ?_;refine Ct ?_;refine Ys<|Ac<|AWp.block<|Y1 ?_;refine Wq Az ?_;refine Wq AA ?_;refine Al ?_;refine Sf ?_;refine Y0<|Y1 ?_;refine Wq Ao ?_;refine Wq Ar ?_;refine Wq (Ag (BR (Og L k).a)) ?_;refine Wq Ak ?_;apply Y0;refine Cf ?_;apply BA;apply Ai;refine Yn<|AWp.region ?_;refine Wq AR ?_;refine Wm ?_;apply AWl.nil
   refine ALoop.next (L.length - (k+1)) (by omega) ⟨k+1,by omega,rfl,rfl⟩ ?_
   exact Aq (by exact Yd<|Yd<|Yd<|FrLe.nil) (by exact HpLe.nil)
  ·obtain rfl : k = L.length := by omega
   apply Y1;refine Wq Ak ?_;refine Y0<|Ac ?_;refine Cf ?_;apply AZ;apply AE;apply AM;apply AF;refine Yn<|Y1<|Wa<|Y0 ?_;apply As
   exact Yf
theorem Ua (L : List Sq) (hn:L.length≤100000) (z:Nat) (hz:z<L.length) (h:∀ k,k<z→0≤(Og L k).a.num.sign) (hneg:(Og L z).a.num.sign<0):Abs Tryz.prog 12 [Io L] (ex (.bool false)):=by
 refine Ab Tryz.func12 fun s0=>?_
 rw [Tryz.ntmps12]
 refine Y1<|Wa<|Y0<|Ac<|Y1<|Wm ?_;refine Wq AH ?_;refine Wm<|Y0<|AWp.block ?_
 refine Ba (fun mz σ=>∃ k,k≤z∧mz = z - k∧σ = ⟨[(5,.d (Io L)),(6,.d (ex (.int .i64 (L.length:Nat)))),(7,.d (ex (.int .i64 (k:Nat))))],[]⟩) ?le ⟨0,by omega,rfl,rfl⟩ ?round
 case le=>exact Aq (by exact Yd<|Yd<|Yd<|FrLe.nil) (by exact HpLe.nil)
 case round =>
  rintro mz _ ⟨k,hk,rfl,rfl⟩
  by_cases hlt:k<z
  ·have hk2:=h k hlt
   apply Y1;refine Wq Am ?_;refine Y0<|Ac ?_;refine Ct ?_;refine Ys<|Ac<|AWp.block<|Y1 ?_;refine Wq Az ?_;refine Wq AA ?_;refine Al ?_;refine Sf ?_;refine Y0<|Y1 ?_;refine Wq Ao ?_;refine Wq Ar ?_;refine Wq (Ag (BR (Og L k).a)) ?_;refine Wq Ak ?_;apply Y0;refine Cf ?_;apply BA;apply Ai;refine Yn<|AWp.region ?_;refine Wq AR ?_;refine Wm ?_;apply AWl.nil
   refine ALoop.next (z - (k+1)) (by omega) ⟨k+1,by omega,rfl,rfl⟩ ?_
   exact Aq (by exact Yd<|Yd<|Yd<|FrLe.nil) (by exact HpLe.nil)
  ·obtain rfl : k = z := by omega
   apply Y1;refine Wq Am ?_;refine Y0<|Ac ?_;refine Ct ?_;refine Ys<|Ac<|AWp.block<|Y1 ?_;refine Wq Az ?_;refine Wq AA ?_;refine Al ?_;refine Sf ?_;refine Y0<|Y1 ?_;refine Wq Ao ?_;refine Wq Ar ?_;refine Wq (Ag (BR (Og L k).a)) ?_;refine Wq Am ?_;apply Y0;refine Ct ?_;refine Y1<|Wa<|Y0 ?_;apply As;apply Bf;apply AJ;apply CK;apply Bf;apply AJ
   exact Yf
def KA (S : List Tm) (s:Sq):List Tm:=CW S (Er s.a (EP s.p s.p))
def Fp (L : List Sq):List Tm:=L.foldl KA []
theorem ZV {s : Sq} {n N K:Nat} {d:Int} (h:PB s.p n N d) (hk:RSz s.a K) (h0:0≤d):PB (Er s.a (EP s.p s.p)) (n*n) (K+n*(N+N+1)) (d+d):=HX (h.mul h h0 h0) hk
theorem JE {L : List Sq} {n N K:Nat} {d:Int} (h:SqB L n N K d) (h0:0≤d):∀ k,k≤L.length→PB (Fp (L.take k)) (k*(n*n)) (k*(K+n*(N+N+1)+1)) (d+d)
 | 0,_=>PB.nil
 | k+1,hk=>by
  have ih:=JE h h0 k (by omega)
  have hs:=h _ (IZ (show k<L.length by omega))
  have h1:=ih.add (ZV hs.1 hs.2 h0)
  have e:Fp (L.take (k+1)) = KA (Fp (L.take k)) (Og L k):=Nz KA [] (by omega)
  rw [e]
  exact h1.mono (by rw [Nat.succ_mul];exact Nat.le_refl _) (by rw [Nat.succ_mul];omega) (by omega)
theorem Wl {L : List Sq} {k:Nat} (h:k<L.length):Fp (L.take (k+1)) = KA (Fp (L.take k)) (Og L k):=Nz KA [] h
theorem Wn (S : List Tm) (s:Sq) (n N K n' N':Nat) (d d':Int) (hS:PB S n' N' d') (hp:PB s.p n N d) (ha:RSz s.a K) (h0:0≤d) (hd:d+d≤65535) (hn:n*n≤100000) (hn':n'+n*n≤100000) (hN:N+N+1≤10000000) (hK:n*(N+N+1)+K+N'+1≤4398046511103):Abs Tryz.prog 44 [Bi S,BF (sqC s)] (Da [Bi (KA S s),ex (.int .i64 0)]):=by
 have hm:=hp.mul hp h0 h0
 have hml:=hm.len
 have hsq:=ZV hp ha h0
 by_cases hz:s.a = 0
 ·have e : KA S s = CW S [] := by rw [KA, Er, if_pos hz]
  have hnil:PB ([]:List Tm) 0 0 0:=PB.nil
  refine Ab Tryz.func44 fun s0=>?_
  rw [Tryz.ntmps44]
  apply Y1;refine Bx ?_;refine Wa<|Wa<|Y0<|Y1 ?_;refine Wq Ao ?_;refine Wq AB ?_;refine Wq Ao ?_;refine Wq AB ?_;refine Wq (Ag (Pk hp hp h0 h0 hd hn hN)) ?_;refine Wm ?_;refine Wq Bl ?_;refine Wq Bl ?_;refine Wa<|Wa<|Y0<|Ac<|Y1<|Wm ?_;refine Wq Ak ?_;apply Y0;refine Cf ?_;refine Ys<|Y1 ?_;refine Wq Ao ?_;refine Wq Ar ?_;(refine Cz rfl rfl ?_;(refine FE (Ad rfl) (Ad rfl) rfl rfl ?_;(repeat ((first | refine ⟨_,AK (ao rfl),?_⟩ | refine ⟨_,Po rfl,?_⟩);refine ⟨_,rfl,?_⟩));refine ⟨_,rfl,?_⟩));refine Wm ?_;refine Wq (Ag (QZ s.a (fun _=>0) (EP s.p s.p) hz)) ?_;refine Wm ?_;refine Wq Bl ?_;refine Wq Bl ?_;refine Wa<|Wa<|Y0<|Y1<|Wm<|Wm ?_;refine Wq (Ag (Jx hS hnil (by omega) (by omega))) ?_;refine Wm<|Wa<|Wa<|Y0 ?_;apply As
  exact Bd (Co (ResV.tmp rfl rfl) (ResV.tmp rfl rfl) (BW (Do e.symm) (D.le.refl _)))
 ·have e : KA S s = CW S (MS s.a (fun _ => 0) (EP s.p s.p)) := by rw [KA, Er, if_neg hz]
  rw [Er,if_neg hz] at hsq
  refine Ab Tryz.func44 fun s0=>?_
  rw [Tryz.ntmps44]
  apply Y1;refine Bx ?_;refine Wa<|Wa<|Y0<|Y1 ?_;refine Wq Ao ?_;refine Wq AB ?_;refine Wq Ao ?_;refine Wq AB ?_;refine Wq (Ag (Pk hp hp h0 h0 hd hn hN)) ?_;refine Wm ?_;refine Wq Bl ?_;refine Wq Bl ?_;refine Wa<|Wa<|Y0<|Ac<|Y1<|Wm ?_;refine Wq Ak ?_;apply Y0;refine Cf ?_;refine Ys<|Y1 ?_;refine Wq Ao ?_;refine Wq Ar ?_;(refine Cz rfl rfl ?_;(refine FE (Ad rfl) (Ad rfl) rfl rfl ?_;(repeat ((first | refine ⟨_,AK (ao rfl),?_⟩ | refine ⟨_,Po rfl,?_⟩);refine ⟨_,rfl,?_⟩));refine ⟨_,rfl,?_⟩));refine Wm ?_;refine Wq (Ag (Sy s.a (fun _=>0) (EP s.p s.p) K (n*(N+N+1)) hz ha In8.zero hm.sz (hm.ex.mono (Int.le_refl _) hd) (fun t ht=>by rw [HW];exact (hm.ex.mono (Int.le_refl _) hd) t ht) (by omega) (by omega))) ?_;refine Wm ?_;refine Wq Bl ?_;refine Wq Bl ?_;refine Wa<|Wa<|Y0<|Y1<|Wm<|Wm ?_;refine Wq (Ag (Jx hS hsq (by omega) (by omega))) ?_;refine Wm<|Wa<|Wa<|Y0 ?_;apply As
  exact Bd (Co (ResV.tmp rfl rfl) (ResV.tmp rfl rfl) (BW (Do e.symm) (D.le.refl _)))
theorem UU (L : List Sq) (n N K:Nat) (d:Int) (h:SqB L n N K d) (h0:0≤d) (hL:L.length≤100) (hd:d+d≤65535) (hn:n≤30) (hN:N≤1000000) (hK:K≤1000000):Abs Tryz.prog 43 [Io L,ex (.func (.func 44) #[] #[])] (Da [Bi (Fp L),ex (.int .i64 0)]):=by
 have hnn:n*n≤30*30:=Nat.mul_le_mul hn hn
 have hnN:n*(N+N+1)≤30*2000001:=Nat.mul_le_mul hn (by omega)
 refine Ab Tryz.func43 fun s0=>?_
 rw [Tryz.ntmps43]
 refine Y1<|Wa<|Wa<|Y0 ?_;apply NU;refine Y1<|Wa<|Y0<|Y1<|Wa<|Y0<|Ac ?_;apply NV;refine Yn<|Ac<|Y1<|Wm ?_;refine Wq AH ?_;refine Wm<|Y0<|AWp.block ?_
 refine Ba (fun mz σ=>∃ k,k≤L.length∧mz = L.length - k∧σ = ⟨[(1,.d (ex (.func (.func 44) #[] #[]))),(6,.d (Bi (Fp (L.take k)))),(7,.d (ex (.int .i64 0))),(10,.d (Io L)),(11,.d (ex (.int .i64 (L.length:Nat)))),(12,.d (ex (.int .i64 (k:Nat))))],[]⟩) ?le ⟨0,by omega,rfl,rfl⟩ ?round
 case le=>exact Aq (by exact Yd<|FrLe.cons rfl (AVle.le Fk)<|Yd<|Yd<|Yd<|Yd<|FrLe.nil) (by exact HpLe.nil)
 case round =>
  rintro mz _ ⟨k,hk,rfl,rfl⟩
  by_cases hlt:k<L.length
  ·have hm:=IZ hlt
   have hs:=h _ hm
   have hst:=Wl hlt
   have hb:=JE h h0 k (by omega)
   have hkn:k*(n*n)≤100*900:=Nat.mul_le_mul (by omega) (by omega)
   have hkN:k*(K+n*(N+N+1)+1)≤100*70000000:=Nat.mul_le_mul (by omega) (by omega)
   apply Y1;refine Wq Am ?_;refine Y0<|Ac ?_;refine Ct ?_;refine Ys<|Ac<|AWp.block<|Y1 ?_;refine Wq Az ?_;refine Wq AA ?_;refine Al ?_;refine Sf ?_;refine Y0<|Y1<|Wm<|Wm ?_;refine Wq Ar ?_;refine Wq (Ag (Wn (Fp (L.take k)) (Og L k) n N K (k*(n*n)) (k*(K+n*(N+N+1)+1)) d (d+d) hb hs.1 hs.2 h0 hd (by omega) (by omega) (by omega) (by omega))) ?_;refine Wm ?_;refine Wq Bl ?_;refine Wq Bl ?_;refine Wa<|Wa<|Y0<|Y1<|Wm ?_;refine Wq Ak ?_;apply Y0;refine Cf ?_;apply BA;apply Ai;refine Yn<|AWp.region ?_;refine Wq AR ?_;refine Wm ?_;apply AWl.nil
   refine ALoop.next (L.length - (k+1)) (by omega) ⟨k+1,by omega,rfl,rfl⟩ ?_
   exact Aq (by exact Yd<|FrLe.cons rfl (AVle.le (Do hst.symm))<|Yd<|Yd<|Yd<|Yd<|FrLe.nil) (by exact HpLe.nil)
  ·obtain rfl : k = L.length := by omega
   apply Y1;refine Wq Ak ?_;refine Y0<|Ac ?_;refine Cf ?_;apply AZ;apply AE;apply AM;apply AF;refine Yn<|Y1<|Wm<|Wm<|Wa<|Wa<|Y0 ?_;apply As;apply ANo.ret
   exact Bd (Co (ResV.tmp rfl rfl) (ResV.tmp rfl rfl) (BW (Do (by rw [List.take_length])) (D.le.refl _)))
theorem Lp (L : List Sq) (n N K:Nat) (d:Int) (h:SqB L n N K d) (h0:0≤d) (hL:L.length≤100) (hd:d+d≤65535) (hn:n≤30) (hN:N≤1000000) (hK:K≤1000000):Abs Tryz.prog 9 [Io L] (Da [Bi (Fp L),ex (.int .i64 0)]):=by
 refine Ab Tryz.func9 fun s0=>?_
 rw [Tryz.ntmps9]
 refine Y1<|Wa<|Wa<|Y0<|Y1<|Wm ?_;refine Wq (Ag (UU L n N K d h h0 hL hd hn hN hK)) ?_;refine Wq Bl ?_;refine Wq Bl ?_;refine Wa<|Wa<|Y0 ?_;apply As
 exact Bd (Co (ResV.tmp rfl rfl) (ResV.tmp rfl rfl) (BW (D.le.refl _) (D.le.refl _)))
theorem Mm (L : List Sq) (hL:L.length≤100000):Abs Tryz.prog 19 [Io L,Io L] (ex (.bool true)):=by
 refine Ab Tryz.func19 fun s0=>?_
 rw [Tryz.ntmps19]
 refine Y1<|Wa<|Y0<|Ac<|Y1<|Wm ?_;refine Wq AH ?_;refine Wm ?_;refine Wq AH ?_;refine Wq Ak ?_;apply Y0;refine Cf ?_;refine Ys<|Ac<|Y1<|Wa<|Y0<|AWp.block ?_
 refine Ba (fun mz σ=>∃ k,k≤L.length∧mz = L.length - k∧σ = ⟨[(0,.d (Io L)),(1,.d (Io L)),(5,.d (ex (.int .i64 (k:Nat))))],[]⟩) ?le ⟨0,by omega,rfl,rfl⟩ ?round
 case le=>exact Aq (by exact Yd<|Yd<|Yd<|FrLe.nil) (by exact HpLe.nil)
 case round =>
  rintro mz _ ⟨k,hk,rfl,rfl⟩
  by_cases hlt:k<L.length
  ·refine Ac<|Y1<|Wm<|Wm ?_;refine Wq AH ?_;refine Wq Am ?_;apply Y0;refine Ct ?_;refine Ys<|Ac<|AWp.block<|Ac ?_
   refine Dr [[],[],[(17,0),(18,1)],[(19,2)],[(20,3)],[],[],[(22,5),(23,6)],[(24,7)],[(25,8)],[(21,4),(26,9)],[(27,10)],[(28,11)],[],[],[(30,13),(31,14)],[(32,15)],[(33,16)],[],[],[(35,18),(36,19)],[(37,20)],[(38,21)],[(34,17),(39,22)],[(40,23)],[(29,12),(41,24)]] [[],[],[0,1],[0,1,2],[0,1,2,3],[],[],[5,6],[5,6,7],[5,6,7,8],[0,1,2,3,4,5,6,7,8,9],[0,1,2,3,4,5,6,7,8,9,10],[0,1,2,3,4,5,6,7,8,9,10,11],[0,1,2,3,4,5,6,7,8,9,10,11,12],[0,1,2,3,4,5,6,7,8,9,10,11,12],[0,1,2,3,4,5,6,7,8,9,10,11,12,13,14],[0,1,2,3,4,5,6,7,8,9,10,11,12,13,14,15],[0,1,2,3,4,5,6,7,8,9,10,11,12,13,14,15,16],[0,1,2,3,4,5,6,7,8,9,10,11,12],[0,1,2,3,4,5,6,7,8,9,10,11,12],[0,1,2,3,4,5,6,7,8,9,10,11,12,18,19],[0,1,2,3,4,5,6,7,8,9,10,11,12,18,19,20],[0,1,2,3,4,5,6,7,8,9,10,11,12,18,19,20,21],[0,1,2,3,4,5,6,7,8,9,10,11,12,13,14,15,16,17,18,19,20,21,22],[0,1,2,3,4,5,6,7,8,9,10,11,12,13,14,15,16,17,18,19,20,21,22,23],[0,1,2,3,4,5,6,7,8,9,10,11,12,13,14,15,16,17,18,19,20,21,22,23,24]] ?_
   refine Xq Af ?_;refine Xq Af ?_;refine Xq Az ?_;refine Xq Bb ?_;refine Xq CY ?_;refine Xq Af ?_;refine Xq Af ?_;refine Xq Az ?_;refine Xq Bb ?_;refine Xq CY ?_;refine Xq (Ag (QK (rfl:(Og L k).a = (Og L k).a))) ?_;refine Xq Br ?_;refine Xq Af ?_;refine Xg Af ?_;refine Xg Af ?_;refine Xg Az ?_;refine Xg Bb ?_;refine Xg BS ?_;refine Xg Af ?_;refine Xg Af ?_;refine Xg Az ?_;refine Xg Bb ?_;refine Xg BS ?_;refine Xg (Ag (Mq (SameL.refl (Og L k).p))) ?_;refine Xg Br ?_;refine Xq AD ?_;refine ⟨_,rfl,?_⟩
   apply Y0;refine Cf ?_;apply BA;apply Ai;refine Yn<|AWp.region<|Wm ?_;refine Wq AR ?_;refine Wa ?_;apply AWl.nil
   refine ALoop.next (L.length - (k+1)) (by omega) ⟨k+1,by omega,rfl,rfl⟩ ?_
   exact Aq (by exact Yd<|Yd<|Yd<|FrLe.nil) (by exact HpLe.nil)
  ·obtain rfl : k = L.length := by omega
   refine Ac<|Y1<|Wm<|Wm ?_;refine Wq AH ?_;refine Wq Ak ?_;apply Y0;refine Cf ?_;apply AZ;apply AE;apply AM;apply AF;refine Yn<|Y1<|Wa<|Y0 ?_;apply As
   exact Yf
section
variable {P : Program} {s0:An} {n:Nat} {ops:Array Oper} {Q:Exit→AS→Prop} {rest:List Oper} {fr:List (Nat × AV)} {hp hp':List Ow} {ty:TypeId} {ps:String} {af:Array Edge}
theorem ZK {T : TypeId} {x:Operand} {y:D} {k t:Nat} (hx:AS.arg ⟨fr,hp⟩ x = .d y) (h1:One hp (.d y)) (hT:Nat.beq T 139 = false) (hd:Nat.blt t n = true) (hk:GM hp = some k) (hs:DS hp (.var T ([y].map .d)) = some hp') (h:AWl P s0 n ops Q rest ⟨(t,.ptr k 0) :: fr,hp'⟩):AWl P s0 n ops Q (⟨some t,.box T x,ty,ps,af,none⟩ :: rest) ⟨fr,hp⟩:=by
 obtain rfl:=EB hk
 rw [Dd hs] at h
 refine AWl.step rfl fun s ρ a hst K hK=>?_
 have hx':=hst.arg x
 rw [hx] at hx'
 have h1':=h1 _ _ _ _ hst.hp hx'
 have hcs:(a.eval x).cells = #[a.eval x]:=by cases hv:a.eval x <;> first | rfl | (rw [hv] at h1';cases h1')
 have hrun:(execOp a.eval ⟨some t,.box T x,ty,ps,af,none⟩).run P s.w = .ok (.value (.pointer (some ⟨s.w.heap.size,0,none⟩))) (s.w.alloc (.cells #[a.eval x] T)):=by
  simp only [execOp,Instr.box,Sem.run_bind,GE,Result.andThen_ok,Sem.run_pure,hcs]
 unfold Oper.wp
 rw [hrun]
 have hT':=Nat.ne_of_beq_eq_false hT
 refine hK _ _ _ h ⟨s.mk' #[a.eval x] T 0,_,rfl,hst.new (s.le_mk' _ T 0 hT') (dst:=some t) (fun d hd'=>by cases hd';simpa [Nat.blt_eq] using hd) (u:=.pointer (some ⟨s.w.heap.size,0,none⟩)) ⟨by simp,s.w.heap.size,by simp,rfl⟩ ?_ fun b hb=>by cases hb;exact Nat.le_refl _⟩
 refine ⟨s.w.heap.size,#[a.eval x],by simp,Nat.zero_le _,heap_alloc_new s.w _,by simp,hT',fun k hk=>absurd (hst.ok.lt _ _ hk) (Nat.lt_irrefl _),fun k av hk=>?_⟩
 cases k with
 | zero=>cases hk;exact ⟨a.eval x,by simp,h1',y.st hx' (s.le_mk' _ T 0 hT').chg⟩
 | succ k=>cases hk
end
def Yy (l : List (List Tm)):D:=slD 31 1 (l.map fun p=>[Bi p])
def pAt (l : List (List Tm)) (k:Nat):List Tm:=l.getD k default
theorem KJ {l : List (List Tm)} {k:Nat} (h:k<l.length):pAt l k∈l:=by
 unfold pAt
 rw [List.getD_eq_getElem?_getD,List.getElem?_eq_getElem h]
 exact List.getElem_mem _
def ZB (l : List (List Tm)) (n N:Nat) (d:Int):Prop:=∀ p∈l,PB p n N d
def Hf (C l:List (List Tm)):Nat→List Tm
 | 0=>[]
 | k+1=>CW (Hf C l k) (EP (pAt C k) (pAt l k))
theorem KI {C l:List (List Tm)} {n N n' N':Nat} {d d':Int} (hC:ZB C n N d) (hl:ZB l n' N' d') (h0:0≤d) (h0':0≤d') (hle:C.length = l.length):∀ k,k≤C.length→PB (Hf C l k) (k*(n*n')) (k*(n*(N+N'+1)+1)) (d+d')
 | 0,_=>PB.nil
 | k+1,hk=>by
  have h1:=(KI hC hl h0 h0' hle k (by omega)).add ((hC _ (KJ (show k<C.length by omega))).mul (hl _ (KJ (show k<l.length by omega))) h0 h0')
  exact h1.mono (by rw [Nat.succ_mul];exact Nat.le_refl _) (by rw [Nat.succ_mul];omega) (by omega)
abbrev WK (l : List (List Tm)) (i:Nat) (z:List Ow):List Ow:=.var 84 ([Yy l].map .d) :: .var 3 ([ex (.int .i64 (i:Nat))].map .d) :: z
abbrev A1b (l : List (List Tm)) (i:Nat):List Ow:=WK l i []
theorem PM (S q:List Tm) (l:List (List Tm)) (i:Nat) (n N n' N' n2 N2:Nat) (d d' d2:Int) (hS:PB S n2 N2 d2) (hq:PB q n N d) (hl:ZB l n' N' d') (hi:i<l.length) (hll:l.length≤1000) (h0:0≤d) (h0':0≤d') (hd:d+d'≤65535) (hn:n*n'≤100000) (hn2:n2+n*n'≤100000) (hN:N+N'+1≤10000000) (hN2:N2+n*(N+N'+1)+1≤4398046511103) :
  Con Tryz.prog 81 [.d (Bi S),.d (Bi q),.ptr 0 0,.ptr 1 0] (A1b l i) [] (fun r hp'=>r = .d (Da [Bi (CW S (EP q (pAt l i))),ex (.int .i64 0)])∧hp' = WK l (i+1) [.dead]):=by
 have hli:=hl _ (KJ hi)
 refine MA Tryz.func81 rfl (AG Tryz.func81 (by kernel_rfl) (by kernel_rfl)) rfl fun s0 pv0 pv1=>?_
 rw [Tryz.ntmps81]
 refine Y1<|Wa<|Wa<|Y0<|Y1<|Wm ?_;refine Wq AB ?_;refine Wq AB ?_;refine Wq Az ?_;refine Wq BS ?_;refine Wq (Ag (Pk hq hli h0 h0' hd hn hN)) ?_;refine Wm ?_;refine Wq Bl ?_;refine Wq Bl ?_;refine Wa<|Wa<|Y0<|Y1 ?_;refine Wq AB ?_;refine Wq AR ?_;refine Ri (ao rfl) (ao rfl) rfl (Ad rfl) (by first | exact GX rfl | exact One.sl | exact My) rfl rfl ?_;refine Y0<|Y1<|Wm<|Wm ?_;refine Wq (Ag (Jx hS (hq.mul hli h0 h0') hn2 (by omega))) ?_;refine Wm<|Wa<|Wa<|Y0 ?_;apply As
 refine FD (RetsA.d (Co (ResV.tmp rfl rfl) (ResV.tmp rfl rfl) (BW (D.le.refl _) (D.le.refl _)))) rfl ?_ rfl
 exact ⟨rfl,rfl⟩
theorem UV (C l:List (List Tm)) (n N n' N':Nat) (d d':Int) (hC:ZB C n N d) (hl:ZB l n' N' d') (hle:C.length = l.length) (hll:C.length≤100) (h0:0≤d) (h0':0≤d') (hd:d+d'≤65535) (hn:n*n'≤900) (hN:n*(N+N'+1)≤100000000) (hN2:N+N'+1≤10000000) :
  Con Tryz.prog 80 [.d (Yy C),.fn 81 [0,1]] (A1b l 0) [] (fun r hp'=>r = .d (Da [Bi (Hf C l C.length),ex (.int .i64 0)])∧hp' = WK l C.length [.dead]):=by
 refine MA Tryz.func80 rfl (AG Tryz.func80 (by kernel_rfl) (by kernel_rfl)) rfl fun s0 pv0 pv1=>?_
 rw [Tryz.ntmps80]
 refine Y1<|Wa<|Wa<|Y0 ?_;apply NU;refine Y1<|Wa<|Y0<|Y1<|Wa<|Y0<|Ac ?_;apply NV;refine Yn<|Ac<|Y1<|Wm ?_;refine Wq AH ?_;refine Wm<|Y0<|AWp.block ?_
 refine Ba (fun mz σ=>∃ k,k≤C.length∧mz = C.length - k∧σ = ⟨[(1,.fn 81 [0,1]),(6,.d (Bi (Hf C l k))),(7,.d (ex (.int .i64 0))),(10,.d (Yy C)),(11,.d (ex (.int .i64 (C.length:Nat)))),(12,.d (ex (.int .i64 (k:Nat))))],[.var 84 ([Yy l].map .d),.var 3 ([ex (.int .i64 (k:Nat))].map .d),.pin [(pv0,.own 0),(pv1,.own 1)]]⟩) ?le ⟨0,by omega,rfl,rfl⟩ ?round
 case le=>exact Aq (by exact FrLe.cons rfl (Pt rfl)<|FrLe.cons rfl (AVle.le Fk)<|Yd<|Yd<|Yd<|Yd<|FrLe.nil) (by exact Yv<|Yv<|HpLe.cons (BV rfl)<|HpLe.nil)
 case round =>
  rintro mz _ ⟨k,hk,rfl,rfl⟩
  by_cases hlt:k<C.length
  ·have hb := KI hC hl h0 h0' hle k (by omega)
   have hkn:k*(n*n')≤100*900:=Nat.mul_le_mul (by omega) hn
   have hkN:k*(n*(N+N'+1)+1)≤100*100000001:=Nat.mul_le_mul (by omega) (by omega)
   apply Y1;refine Wq Am ?_;refine Y0<|Ac ?_;refine Ct ?_;refine Ys<|Ac<|AWp.block<|Y1 ?_;refine Wq Az ?_;refine Wq BS ?_;refine Wa<|Y0<|Y1<|Wm<|Wm<|Wm ?_
   refine Fh [0,1] [0,1] (PM (Hf C l k) (pAt C k) l k n N n' N' (k*(n*n')) (k*(n*(N+N'+1)+1)) d d' (d+d') hb (hC _ (KJ hlt)) hl (by omega) (by omega) h0 h0' hd (by omega) (by omega) hN2 (by omega)) (by first | exact Or.inl rfl | exact Or.inr ⟨by decide,rfl,by repeat (first | exact AvoidR.nil | refine FX rfl ?_ | refine AvoidR.dead ?_ | refine GZ ?_ | refine AvoidR.obj ?_ | refine FV ?_ | refine FW rfl ?_ | refine AvoidR.pin rfl ?_)⟩) rfl rfl (by first | exact .inl ⟨rfl,rfl⟩ | exact .inr ⟨rfl,rfl⟩) (by repeat (first | exact ArgsC.nil | refine ArgsC.d rfl (D.le.refl _) ?_ | refine Ep rfl rfl ?_)) (by decide) (by repeat (first | exact SelR.nil | refine SelR.var rfl ?_ | refine SelR.obj rfl ?_ | refine Jq rfl ?_ | refine Ih rfl rfl rfl ?_)) (by repeat (first | exact trivial | refine ⟨⟨_,_,rfl⟩,?_⟩)) rfl ?_
   rintro _ _ ⟨rfl,rfl⟩
   refine ⟨_,_,_,(by first | exact AVRen.d | exact AVRen.own rfl | exact AVRen.ptr rfl | exact Eq rfl),(by repeat (first | exact SetR.nil | (apply SetR.cons;(first | exact OwRen.dead | exact BJ | exact OwRen.obj | exact BU | exact BK rfl);exact rfl))),(by repeat (first | exact AppR.nil | (apply AppR.cons;(first | exact OwRen.dead | exact BJ | exact OwRen.obj | exact BU | exact BK rfl);exact rfl))),?_⟩
   refine Wm ?_;refine Wq Bl ?_;refine Wq Bl ?_;refine Wa<|Wa<|Y0<|Y1<|Wm ?_;refine Wq Ak ?_;apply Y0;refine Cf ?_;apply BA;apply Ai;refine Yn<|AWp.region ?_;refine Wq AR ?_;refine Wm ?_;apply AWl.nil
   refine ALoop.next (C.length - (k+1)) (by omega) ⟨k+1,by omega,rfl,rfl⟩ ?_
   exact Aq (by exact FrLe.cons rfl (Pt rfl)<|Yd<|Yd<|Yd<|Yd<|Yd<|FrLe.nil) (by exact HpLe.cons (NR rfl)<|HpLe.cons (NR rfl)<|HpLe.cons (BV rfl)<|HpLe.nil)
  ·obtain rfl : k = C.length := by omega
   apply Y1;refine Wq Ak ?_;refine Y0<|Ac ?_;refine Cf ?_;apply AZ;apply AE;apply AM;apply AF;refine Yn<|Y1<|Wm<|Wm<|Wa<|Wa<|Y0 ?_;apply As;apply ANo.ret
   refine FD (RetsA.d (Co (ResV.tmp rfl rfl) (ResV.tmp rfl rfl) (BW (D.le.refl _) (D.le.refl _)))) rfl ?_ rfl
   exact ⟨rfl,rfl⟩
theorem Kf (p : List Tm) (S:List Sq) (C l:List (List Tm)) (n N n' N' n2 N2 K np Np:Nat) (d d' d2 dp:Int) (hp:PB p np Np dp) (hS:SqB S n2 N2 K d2) (hSn:S.length≤100) (hpos:∀ k,k<S.length→0≤(Og S k).a.num.sign) (hC:ZB C n N d) (hl:ZB l n' N' d') (hle:C.length = l.length) (hll:C.length≤100) (h0:0≤d) (h0':0≤d') (hd:d+d'≤65535) (hn:n*n'≤100) (hN:n*(N+N'+1)≤1000000) (hN2:N+N'+1≤1000000)
  (h02:0≤d2) (hd2:d2+d2≤65535) (hn2:n2≤10) (hN22:N2≤10000) (hK:K≤10000) (hnp:np≤100000) (hNp:Np≤1000000) :
  Abs Tryz.prog 40 [Bi p,Io S,Yy C,Yy l] (ex (.bool (decide (Es p (CW (Fp S) (Hf C l C.length)) = 0)))):=by
 have hs:=JE hS h02 S.length (Nat.le_refl _)
 rw [List.take_length] at hs
 have hpr:=KI hC hl h0 h0' hle C.length (Nat.le_refl _)
 have e1:n2*n2≤10*10:=Nat.mul_le_mul hn2 hn2
 have e2:S.length*(n2*n2)≤100*100:=Nat.mul_le_mul hSn (by omega)
 have e3:n2*(N2+N2+1)≤10*20001:=Nat.mul_le_mul hn2 (by omega)
 have e4:S.length*(K+n2*(N2+N2+1)+1)≤100*300000:=Nat.mul_le_mul hSn (by omega)
 have e5:C.length*(n*n')≤100*100:=Nat.mul_le_mul hll hn
 have e6:C.length*(n*(N+N'+1)+1)≤100*1000001:=Nat.mul_le_mul hll (by omega)
 have hsum:=hs.add hpr
 have hsl:=hsum.len
 have hpl:=hp.len
 have csame:=VI p (CW (Fp S) (Hf C l C.length)) (hp.sz.mono (by omega)) (hsum.sz.mono (by omega)) (by omega) (by omega)
 refine Ab Tryz.func40 fun s0=>?_
 rw [Tryz.ntmps40]
 apply Y1;refine ZK (ao rfl) One.sl rfl rfl rfl rfl ?_;refine Wa<|Y0<|Ac<|Y1<|Wm ?_;refine Wq (Ag (JH S (by omega) hpos)) ?_;refine Wq Br ?_;refine Wm ?_;refine Wg Af ?_;refine Wg AH ?_;refine Wg AB ?_;refine Wg AH ?_;refine Wg Ak ?_;refine Wq AD ?_;apply Y0;refine Cf ?_;refine Ys<|Y1<|Wm ?_;refine Wq (Ag (Lp S n2 N2 K d2 hS h02 hSn hd2 (by omega) (by omega) (by omega))) ?_;refine Wm ?_;refine Wq Bl ?_;refine Wq Bl ?_;refine Wa<|Wa<|Y0<|Ac<|Y1<|Wm ?_;refine Wq Ak ?_;apply Y0;refine Cf ?_;refine Ys<|Y1 ?_;refine Al ?_;refine Ri (ao rfl) (ao rfl) rfl (Ad rfl) (by first | exact GX rfl | exact One.sl | exact My) rfl rfl ?_;refine Y0<|Y1<|Wm ?_;refine Wq (Zt [0,1] rfl) ?_
 refine Fh [0,1] [] (UV C l n N n' N' d d' hC hl hle hll h0 h0' hd (by omega) (by omega) (by omega)) (by first | exact Or.inl rfl | exact Or.inr ⟨by decide,rfl,by repeat (first | exact AvoidR.nil | refine FX rfl ?_ | refine AvoidR.dead ?_ | refine GZ ?_ | refine AvoidR.obj ?_ | refine FV ?_ | refine FW rfl ?_ | refine AvoidR.pin rfl ?_)⟩) rfl rfl (by first | exact .inl ⟨rfl,rfl⟩ | exact .inr ⟨rfl,rfl⟩) (by repeat (first | exact ArgsC.nil | refine ArgsC.d rfl (D.le.refl _) ?_ | refine Ep rfl rfl ?_)) (by decide) (by repeat (first | exact SelR.nil | refine SelR.var rfl ?_ | refine SelR.obj rfl ?_ | refine Jq rfl ?_ | refine Ih rfl rfl rfl ?_)) (by repeat (first | exact trivial | refine ⟨⟨_,_,rfl⟩,?_⟩)) rfl ?_
 rintro _ _ ⟨rfl,rfl⟩
 refine ⟨_,_,_,(by first | exact AVRen.d | exact AVRen.own rfl | exact AVRen.ptr rfl | exact Eq rfl),(by repeat (first | exact SetR.nil | (apply SetR.cons;(first | exact OwRen.dead | exact BJ | exact OwRen.obj | exact BU | exact BK rfl);exact rfl))),(by repeat (first | exact AppR.nil | (apply AppR.cons;(first | exact OwRen.dead | exact BJ | exact OwRen.obj | exact BU | exact BK rfl);exact rfl))),?_⟩
 refine Wm ?_;refine Wq Bl ?_;refine Wq Bl ?_;refine Wa<|Wa<|Y0<|Y1<|Wm ?_;refine Wq Am ?_;refine Wm ?_;refine Wg Af ?_;refine Wg Af ?_;refine Wg Af ?_;refine Wg (Ag (Jx hs hpr (by omega) (by omega))) ?_;refine Wg (Ag (csame)) ?_;refine Wq AP ?_;refine Wa<|Y0 ?_;apply As
 exact Yf
def Dv {α : Type} (r:Nat→α) (k:Nat) (u:α):Nat→α:=fun j=>if j = k then u else r j
def Uf (f : Nat→Rat) (c:Nat):D:=slD 54 4 ((List.range c).map fun j=>BH (f j))
def Ee (r c:Nat) (M:Nat→Nat→Rat):D:=slD 63 1 ((List.range r).map fun i=>[Uf (M i) c])
theorem RC {r k:Nat} (h:k<r):(List.range r).getD k default = k:=by
 rw [List.getD_eq_getElem?_getD,List.getElem?_range h];rfl
section
variable {P : Program} {hp:List Ow} {arg:Operand→AV} {dd:Option Tmp} {ty:TypeId} {ps:String} {af:Array Edge} {gd:Option (Nat × Bool)}
theorem BD {x y:Operand} {t:TypeId} {e n b n' b' T sz r k:Nat} {d:TypeDesc} {z z':Value} {f:Nat→List D} {κ:IntKind} (hx:Et hp (arg x) = some (slD T sz ((List.range r).map f))) (hy:arg y = .d (ex (.int κ ((k:Nat):Int)))) (ht:Tab P t (.slice e) n b z) (he:Tab P e d n' b' z') (hsz:n' = sz) (hk:k<r):Quiet P hp ⟨dd,.indexAddr t x y,ty,ps,af,gd⟩ arg (.d (Iu T (f k))):=by
 have:=DK (dd:=dd) (ty:=ty) (ps:=ps) (af:=af) (gd:=gd) hx hy ht he hsz (by simpa using hk)
 rwa [RC hk] at this
theorem DJ {x : Operand} {t:TypeId} {e n b T sz r:Nat} {z:Value} {f:Nat→List D} (hx:Et hp (arg x) = some (slD T sz ((List.range r).map f))) (ht:Tab P t (.slice e) n b z):Quiet P hp ⟨dd,.call { callee:=.builtin .len,args:=#[x],argTypes:=#[t] },ty,ps,af,gd⟩ arg (.d (ex (.int .i64 (r:Nat)))):=by
 have:=Ju (dd:=dd) (ty:=ty) (ps:=ps) (af:=af) (gd:=gd) hx ht
 rwa [List.length_range] at this
end
def Bh (f : Nat→Rat) (n:Nat):List D:=((List.range n).map fun j=>BH (f j)).flatten
theorem IJ (f : Nat→Rat) (n:Nat):Bh f (n+1) = Bh f n ++ BH (f n):=by
 simp [Bh,List.range_succ]
theorem Cj (f : Nat→Rat):∀ n,(Bh f n).length = n*4
 | 0=>rfl
 | n+1=>by rw [IJ,List.length_append,Cj f n,Dy,Nat.succ_mul]
theorem HH (f : Nat→Rat):∀ {n j q:Nat},j<n→q<4→(Bh f n)[j*4+q]? = (BH (f j))[q]?
 | n+1,j,q,hj,hq=>by
  rw [IJ]
  by_cases h:j<n
  ·rw [List.getElem?_append_left (by rw [Cj]; omega)]
   exact HH f h hq
  ·obtain rfl : j = n := by omega
   rw [List.getElem?_append_right (by rw [Cj];omega),Cj]
   congr 1
   omega
theorem BE {f : Nat→Rat} {n j:Nat} (hj:j<n):PartAt (Bh f n) (j*4) 4 (BH (f j)):=by
 refine ⟨by rw [Cj];omega,?_⟩
 apply List.ext_getElem?
 intro q
 rw [List.getElem?_take]
 split
 ·rename_i hq
  rw [List.getElem?_drop]
  exact HH f hj hq
 ·rename_i hq
  rw [List.getElem?_eq_none (by rw [Dy];omega)]
theorem GT {f : Nat→Rat} {n j:Nat} {v:Rat} (hj:j<n):SetAt (Bh f n) (j*4) (BH v) (Bh (Dv f j v) n):=by
 have hl:∀ v:Rat,(BH v).length = 4:=Dy
 have hle:j*4+(BH v).length≤(Bh f n).length:=by rw [Cj,hl];omega
 refine ⟨hle,?_⟩
 apply List.ext_getElem?
 intro i
 by_cases hi:i<n*4
 ·have e1 : i = i / 4 * 4 + i % 4 := by omega
  have hlt:i / 4<n:=by omega
  have hm:i % 4<4:=by omega
  have e2:(Bh (Dv f j v) n)[i]? = (BH (Dv f j v (i / 4)))[i % 4]? := by
   have:=HH (Dv f j v) hlt hm
   rwa [← e1] at this
  have e3:(Bh f n)[i]? = (BH (f (i / 4)))[i % 4]? := by
   have:=HH f hlt hm
   rwa [← e1] at this
  rw [e2]
  unfold MY
  have ht:((Bh f n).take (j*4)).length = j*4:=by rw [List.length_take,Cj];omega
  by_cases h1:i<j*4
  ·rw [List.getElem?_append_left (by omega),List.getElem?_take,if_pos h1,e3,Dv,if_neg (by omega)]
  ·rw [List.getElem?_append_right (by omega), ht]
   by_cases h2:i<j*4+4
   ·rw [List.getElem?_append_left (by rw [hl]; omega), Dv, if_pos (by omega)]
    congr 1
    omega
   ·rw [List.getElem?_append_right (by rw [hl]; omega), List.getElem?_drop, hl, Dv, if_neg (by omega), ← e3]
    congr 1
    omega
 ·rw [List.getElem?_eq_none (by rw [CC hle,Cj];omega),List.getElem?_eq_none (by rw [Cj];omega)]
theorem EK {f g:Nat→Rat} {n:Nat} (h:∀ j,j<n→f j = g j):Bh f n = Bh g n:=by
 unfold Bh
 rw [List.map_congr_left fun j hj=>by rw [h j (List.mem_range.1 hj)]]
def DM (b0 n m:Nat) (b c:Nat→Nat) (M:Nat→Nat→Rat):List HE :=
 ⟨b0,63,(List.range n).map fun i=>if i<m then sX (b i) n (c i) else ex (.slice none 0 0)⟩ :: (List.range m).map fun i=>⟨b i,54,Bh (M i) n⟩
theorem Dg {b0 n m i:Nat} {b c:Nat→Nat} {M:Nat→Nat→Rat} (h:i<m):(DM b0 n m b c M)[i+1]? = some ⟨b i,54,Bh (M i) n⟩:=by
 simp [DM,h]
theorem CU {b0 n m:Nat} {b c:Nat→Nat} {M:Nat→Nat→Rat}:(DM b0 n m b c M)[0]? = some ⟨b0,63,(List.range n).map fun i=>if i<m then sX (b i) n (c i) else ex (.slice none 0 0)⟩:=rfl
theorem CO {n m i:Nat} {b c:Nat→Nat} (h:i<m) (hm:m≤n):CellAt ((List.range n).map fun i=>if i<m then sX (b i) n (c i) else ex (.slice none 0 0)) (i*1) (sX (b i) n (c i)):=by
 rw [Nat.mul_one]
 refine ⟨by simp;omega,?_⟩
 have:i<n:=by omega
 simp [BP,this,h]
theorem RO {n m g cg:Nat} {b c:Nat→Nat} (h:m<n):SetAt ((List.range n).map fun i=>if i<m then sX (b i) n (c i) else ex (.slice none 0 0)) (m*1) [sX g n cg] ((List.range n).map fun i=>if i<m+1 then sX (Dv b m g i) n (Dv c m cg i) else ex (.slice none 0 0)):=by
 rw [Nat.mul_one]
 have hle:m+[sX g n cg].length≤((List.range n).map fun i=>if i<m then sX (b i) n (c i) else ex (.slice none 0 0)).length:=by simp;omega
 refine ⟨hle,?_⟩
 apply List.ext_getElem?
 intro i
 have hs:MY ((List.range n).map fun i=>if i<m then sX (b i) n (c i) else ex (.slice none 0 0)) m [sX g n cg] = ((List.range n).map fun i=>if i<m then sX (b i) n (c i) else ex (.slice none 0 0)).set m (sX g n cg):=by
  unfold MY
  rw [List.set_eq_take_append_cons_drop,if_pos (by simpa using h)]
  rfl
 rw [hs,List.getElem?_set]
 by_cases hi:i<n
 ·split
  ·rename_i e
   subst e
   simp [hi,Dv]
  ·rename_i e
   simp only [List.getElem?_map,List.getElem?_range hi,Option.map_some,Dv]
   have e':¬ i = m:=fun h=>e h.symm
   simp only [if_neg e']
   by_cases h1:i<m
   ·rw [if_pos h1,if_pos (by omega)]
   ·rw [if_neg h1,if_neg (by omega)]
 ·split
  ·omega
  ·rw [List.getElem?_eq_none (by simp;omega),List.getElem?_eq_none (by simp;omega)]
theorem RN {b0 n m g cg:Nat} {b c:Nat→Nat} {M:Nat→Nat→Rat}:(DM b0 n m b c M).set 0 ⟨b0,63,(List.range n).map fun i=>if i<m+1 then sX (Dv b m g i) n (Dv c m cg i) else ex (.slice none 0 0)⟩ ++ [⟨g,54,Bh (M m) n⟩] = DM b0 n (m+1) (Dv b m g) (Dv c m cg) M:=by
 simp only [DM,List.set_cons_zero,List.cons_append,List.range_succ (n:=m),List.map_append,List.map_cons,List.map_nil]
 congr 2
 ·apply List.map_congr_left
  intro i hi
  have:=List.mem_range.1 hi
  rw [Dv,if_neg (by omega)]
 ·rw [Dv,if_pos rfl]
def Yx (M : Nat→Nat→Rat) (i j:Nat) (v:Rat):Nat→Nat→Rat:=Dv M i (Dv (M i) j v)
theorem UI {b0 n m i j:Nat} {b c:Nat→Nat} {M:Nat→Nat→Rat} {v:Rat} (h:i<m):(DM b0 n m b c M).set (i+1) ⟨b i,54,Bh (Dv (M i) j v) n⟩ = DM b0 n m b c (Yx M i j v):=by
 simp only [DM,List.set_cons_succ]
 congr 1
 apply List.ext_getElem?
 intro q
 rw [List.getElem?_set]
 by_cases hq:q<m
 ·split
  ·rename_i e
   subst e
   simp [hq,Yx,Dv]
  ·rename_i e
   simp only [List.getElem?_map,List.getElem?_range hq,Option.map_some,Yx]
   rw [Dv,if_neg (fun h=>e h.symm)]
 ·split
  ·omega
  ·rw [List.getElem?_eq_none (by simp;omega),List.getElem?_eq_none (by simp;omega)]
theorem Kj {b0 n m:Nat} {b c:Nat→Nat} {M M':Nat→Nat→Rat} (h:∀ i,i<m→∀ j,j<n→M i j = M' i j):DM b0 n m b c M = DM b0 n m b c M':=by
 unfold DM
 congr 1
 apply List.map_congr_left
 intro i hi
 rw [EK (h i (List.mem_range.1 hi))]
theorem IE (r c:Nat) (M:Nat→Nat→Rat) (N:Nat) (hM:∀ i j,RSz (M i j) N) (hN:N≤1000000000) (hr:r≤1000) (hc:c≤1000):Abs Tryz.prog 51 [Ee r c M] (ex (.bool true)):=by
 refine Ab Tryz.func51 fun s0=>?_
 rw [Tryz.ntmps51]
 refine Y1<|Wa<|Y0<|Ac<|Y1<|Wm ?_;refine Wq (DJ rfl (Ad rfl)) ?_;refine Wm<|Y0<|AWp.block ?_
 refine Ba (fun mz σ=>∃ k,k≤r∧mz = r - k∧σ = ⟨[(0,.d (Ee r c M)),(7,.d (Ee r c M)),(8,.d (ex (.int .i64 (r:Nat)))),(9,.d (ex (.int .i64 (k:Nat))))],[]⟩) ?le ⟨0,by omega,rfl,rfl⟩ ?round
 case le=>exact Aq (by exact Yd<|Yd<|Yd<|Yd<|FrLe.nil) (by exact HpLe.nil)
 case round =>
  rintro mz _ ⟨k,hk,rfl,rfl⟩
  by_cases hlt:k<r
  ·refine Ac<|AWp.region ?_; refine Wq Am ?_; apply AWl.nil; refine Yn<|Ac ?_; refine Ct ?_; apply BA; refine Yn<|Ac<|AWp.block<|Ac<|AWp.region ?_; refine Wq (BD (k := k) rfl (ao rfl) (Ad rfl) (Ad rfl) rfl (by omega)) ?_; refine Wq BS ?_; refine Wa ?_; apply AWl.nil; refine Yn<|Ac<|Ac<|AWp.region<|Wm ?_; refine Wq (DJ rfl (Ad rfl)) ?_; refine Wm ?_; refine Wq (BD (k := 0) rfl (ao rfl) (Ad rfl) (Ad rfl) rfl (by omega)) ?_; refine Wq BS ?_; refine Wq (DJ rfl (Ad rfl)) ?_; refine Wq Ak ?_; apply AWl.nil; apply Yn; refine Cf ?_; apply BA; refine Yn<|Ac<|AWp.region<|Wm ?_; refine Wq (DJ rfl (Ad rfl)) ?_; refine Wm ?_; apply AWl.nil; refine Yn<|AWp.block ?_
   refine Ba (fun mz σ=>∃ i,i≤c∧mz = c - i∧σ = ⟨[(0,.d (Ee r c M)),(7,.d (Ee r c M)),(8,.d (ex (.int .i64 (r:Nat)))),(9,.d (ex (.int .i64 (k:Nat)))),(20,.d (Uf (M k) c)),(21,.d (ex (.int .i64 (c:Nat)))),(22,.d (ex (.int .i64 (i:Nat))))],[]⟩) ?lei ⟨0,by omega,rfl,rfl⟩ ?roundi
   case lei=>exact Aq (by exact Yd<|Yd<|Yd<|Yd<|Yd<|Yd<|Yd<|FrLe.nil) (by exact HpLe.nil)
   case roundi =>
    rintro mz _ ⟨i,hi,rfl,rfl⟩
    by_cases hlti:i<c
    ·refine Ac<|AWp.region ?_; refine Wq Am ?_; apply AWl.nil; refine Yn<|Ac ?_; refine Ct ?_; apply BA; refine Yn<|Ac<|AWp.block<|Ac<|AWp.region ?_; refine Wq (BD (k := i) rfl (ao rfl) (Ad rfl) (Ad rfl) rfl (by omega)) ?_; refine Wq AA ?_; refine Al ?_; refine Sf ?_; apply AWl.nil; refine Yn<|Ac<|AWp.region ?_; refine Wq Ar ?_; refine Wq (Ag (PK (M k i) N (hM k i) hN)) ?_; refine Wq Br ?_; apply AWl.nil; apply Yn; refine Cf ?_; apply BA; apply Ai; refine Yn<|AWp.region ?_; refine Wq AR ?_; refine Wm ?_; apply AWl.nil
     refine ALoop.next (c - (i+1)) (by omega) ⟨i+1,by omega,rfl,rfl⟩ ?_
     exact Aq (by exact Yd<|Yd<|Yd<|Yd<|Yd<|Yd<|Yd<|FrLe.nil) (by exact HpLe.nil)
    ·obtain rfl : i = c := by omega
     apply Y1;refine Wq Ak ?_;refine Y0<|Ac ?_;refine Cf ?_;apply AZ;apply AE;apply AM;apply AF;apply Ai;refine Yn<|AWp.region ?_;refine Wq AR ?_;refine Wm ?_;apply AWl.nil
     refine ALoop.next (r - (k+1)) (by omega) ⟨k+1,by omega,rfl,rfl⟩ ?_
     exact Aq (by exact Yd<|Yd<|Yd<|Yd<|FrLe.nil) (by exact HpLe.nil)
  ·obtain rfl : k = r := by omega
   apply Y1;refine Wq Ak ?_;refine Y0<|Ac ?_;refine Cf ?_;apply AZ;apply AE;apply AM;apply AF;refine Yn<|Y1<|Wa<|Y0 ?_;apply As
   exact Yf
theorem Wi (n : Nat) (M:Nat→Nat→Rat) (N:Nat) (hM:∀ i j,RSz (M i j) N) (hN:N≤1000000000) (hn:n≤1000) (h:∀ i,i<n→∀ j,j<i→M i j = M j i):Abs Tryz.prog 52 [Ee n n M] (ex (.bool true)):=by
 refine Ab Tryz.func52 fun s0=>?_
 rw [Tryz.ntmps52]
 refine Y1<|Wa<|Y0<|Ac<|Y1<|Wm ?_;refine Wq (DJ rfl (Ad rfl)) ?_;refine Wm<|Y0<|AWp.block ?_
 refine Ba (fun mz σ=>∃ k,k≤n∧mz = n - k∧σ = ⟨[(0,.d (Ee n n M)),(6,.d (ex (.int .i64 (n:Nat)))),(7,.d (ex (.int .i64 (k:Nat))))],[]⟩) ?le ⟨0,by omega,rfl,rfl⟩ ?round
 case le=>exact Aq (by exact Yd<|Yd<|Yd<|FrLe.nil) (by exact HpLe.nil)
 case round =>
  rintro mz _ ⟨k,hk,rfl,rfl⟩
  by_cases hlt:k<n
  ·apply Y1;refine Wq Am ?_;refine Y0<|Ac ?_;refine Ct ?_;refine Ys<|Ac<|AWp.block<|Y1<|Wm<|Wa<|Y0<|Y1<|Wm<|Wm<|Y0<|AWp.block ?_
   refine Ba (fun mz σ=>∃ i,i≤k∧mz = k - i∧σ = ⟨[(0,.d (Ee n n M)),(6,.d (ex (.int .i64 (n:Nat)))),(7,.d (ex (.int .i64 (k:Nat)))),(3,.d (ex (.int .i64 (k:Nat)))),(10,.d (ex (.int .i64 (k:Nat)))),(11,.d (ex (.int .i64 (i:Nat))))],[]⟩) ?lei ⟨0,by omega,rfl,rfl⟩ ?roundi
   case lei=>exact Aq (by exact Yd<|Yd<|Yd<|Yd<|Yd<|Yd<|FrLe.nil) (by exact HpLe.nil)
   case roundi =>
    rintro mz _ ⟨i,hi,rfl,rfl⟩
    by_cases hlti:i<k
    ·have hq:Hj (M k i) (M i k) = 0:=Gn.2 (h k hlt i hlti)
     have cc:=Gm (M k i) (M i k) ((hM k i).mono hN) ((hM i k).mono hN)
     rw [hq] at cc
     apply Y1;refine Wq Am ?_;refine Y0<|Ac ?_;refine Ct ?_;refine Ys<|Ac<|AWp.block<|Y1<|Wm<|Wa<|Y0<|Ac ?_
     refine Dr [[],[],[(14,0),(15,1)],[(16,2)],[],[(17,3),(18,4)],[(19,5)],[],[],[(21,7),(22,8)],[(23,9)],[],[(24,10),(25,11)],[(26,12)],[(20,6),(27,13)],[(28,14)]] [[],[],[0,1],[0,1,2],[],[0,1,2,3,4],[0,1,2,3,4,5],[],[],[7,8],[7,8,9],[],[7,8,9,10,11],[7,8,9,10,11,12],[0,1,2,3,4,5,6,7,8,9,10,11,12,13],[0,1,2,3,4,5,6,7,8,9,10,11,12,13,14]] ?_
     refine Xq Af ?_;refine Xq Af ?_;refine Xq (BD (k:=k) rfl (ah rfl) (Ad rfl) (Ad rfl) rfl (by omega)) ?_;refine Xq BS ?_;refine Xq Af ?_;refine Xq (BD (k:=i) rfl (ah rfl) (Ad rfl) (Ad rfl) rfl (by omega)) ?_;refine Xq AA ?_;refine Xq Af ?_;refine Xq Af ?_;refine Xq (BD (k:=i) rfl (ah rfl) (Ad rfl) (Ad rfl) rfl (by omega)) ?_;refine Xq BS ?_;refine Xq Af ?_;refine Xq (BD (k:=k) rfl (ah rfl) (Ad rfl) (Ad rfl) rfl (by omega)) ?_;refine Xq AA ?_;refine Xq (Ag (cc)) ?_;refine Xq Ak ?_;refine ⟨_,rfl,?_⟩
     apply Y0;refine Cf ?_;apply BA;apply Ai;refine Yn<|AWp.region ?_;refine Wq AR ?_;refine Wm ?_;apply AWl.nil
     refine ALoop.next (k - (i+1)) (by omega) ⟨i+1,by omega,rfl,rfl⟩ ?_
     exact Aq (by exact Yd<|Yd<|Yd<|Yd<|Yd<|Yd<|FrLe.nil) (by exact HpLe.nil)
    ·obtain rfl : i = k := by omega
     apply Y1;refine Wq Ak ?_;refine Y0<|Ac ?_;refine Cf ?_;apply AZ;apply AE;apply AM;apply AF;apply Ai;refine Yn<|AWp.region ?_;refine Wq AR ?_;refine Wm ?_;apply AWl.nil
     refine ALoop.next (n - (i+1)) (by omega) ⟨i+1,by omega,rfl,rfl⟩ ?_
     exact Aq (by exact Yd<|Yd<|Yd<|FrLe.nil) (by exact HpLe.nil)
  ·obtain rfl : k = n := by omega
   apply Y1;refine Wq Ak ?_;refine Y0<|Ac ?_;refine Cf ?_;apply AZ;apply AE;apply AM;apply AF;refine Yn<|Y1<|Wa<|Y0 ?_;apply As
   exact Yf
theorem Wj (n : Nat) (M:Nat→Nat→Rat) (N:Nat) (hM:∀ i j,RSz (M i j) N) (hN:N≤1000000000) (hn:n≤1000) (z w:Nat) (hz:z<n) (hw:w<z) (h:∀ i,i<z→∀ j,j<i→M i j = M j i) (h':∀ j,j<w→M z j = M j z) (hbad:M z w ≠ M w z):Abs Tryz.prog 52 [Ee n n M] (ex (.bool false)):=by
 refine Ab Tryz.func52 fun s0=>?_
 rw [Tryz.ntmps52]
 refine Y1<|Wa<|Y0<|Ac<|Y1<|Wm ?_;refine Wq (DJ rfl (Ad rfl)) ?_;refine Wm<|Y0<|AWp.block ?_
 refine Ba (fun mz σ=>∃ k,k≤z∧mz = z - k∧σ = ⟨[(0,.d (Ee n n M)),(6,.d (ex (.int .i64 (n:Nat)))),(7,.d (ex (.int .i64 (k:Nat))))],[]⟩) ?le ⟨0,by omega,rfl,rfl⟩ ?round
 case le=>exact Aq (by exact Yd<|Yd<|Yd<|FrLe.nil) (by exact HpLe.nil)
 case round =>
  rintro mz _ ⟨k,hk,rfl,rfl⟩
  by_cases hlt:k<z
  ·apply Y1;refine Wq Am ?_;refine Y0<|Ac ?_;refine Ct ?_;refine Ys<|Ac<|AWp.block<|Y1<|Wm<|Wa<|Y0<|Y1<|Wm<|Wm<|Y0<|AWp.block ?_
   refine Ba (fun mz σ=>∃ i,i≤k∧mz = k - i∧σ = ⟨[(0,.d (Ee n n M)),(6,.d (ex (.int .i64 (n:Nat)))),(7,.d (ex (.int .i64 (k:Nat)))),(3,.d (ex (.int .i64 (k:Nat)))),(10,.d (ex (.int .i64 (k:Nat)))),(11,.d (ex (.int .i64 (i:Nat))))],[]⟩) ?lei ⟨0,by omega,rfl,rfl⟩ ?roundi
   case lei=>exact Aq (by exact Yd<|Yd<|Yd<|Yd<|Yd<|Yd<|FrLe.nil) (by exact HpLe.nil)
   case roundi =>
    rintro mz _ ⟨i,hi,rfl,rfl⟩
    by_cases hlti:i<k
    ·have hq:Hj (M k i) (M i k) = 0:=Gn.2 (h k hlt i hlti)
     have cc:=Gm (M k i) (M i k) ((hM k i).mono hN) ((hM i k).mono hN)
     rw [hq] at cc
     apply Y1;refine Wq Am ?_;refine Y0<|Ac ?_;refine Ct ?_;refine Ys<|Ac<|AWp.block<|Y1<|Wm<|Wa<|Y0<|Ac ?_
     refine Dr [[],[],[(14,0),(15,1)],[(16,2)],[],[(17,3),(18,4)],[(19,5)],[],[],[(21,7),(22,8)],[(23,9)],[],[(24,10),(25,11)],[(26,12)],[(20,6),(27,13)],[(28,14)]] [[],[],[0,1],[0,1,2],[],[0,1,2,3,4],[0,1,2,3,4,5],[],[],[7,8],[7,8,9],[],[7,8,9,10,11],[7,8,9,10,11,12],[0,1,2,3,4,5,6,7,8,9,10,11,12,13],[0,1,2,3,4,5,6,7,8,9,10,11,12,13,14]] ?_
     refine Xq Af ?_;refine Xq Af ?_;refine Xq (BD (k:=k) rfl (ah rfl) (Ad rfl) (Ad rfl) rfl (by omega)) ?_;refine Xq BS ?_;refine Xq Af ?_;refine Xq (BD (k:=i) rfl (ah rfl) (Ad rfl) (Ad rfl) rfl (by omega)) ?_;refine Xq AA ?_;refine Xq Af ?_;refine Xq Af ?_;refine Xq (BD (k:=i) rfl (ah rfl) (Ad rfl) (Ad rfl) rfl (by omega)) ?_;refine Xq BS ?_;refine Xq Af ?_;refine Xq (BD (k:=k) rfl (ah rfl) (Ad rfl) (Ad rfl) rfl (by omega)) ?_;refine Xq AA ?_;refine Xq (Ag (cc)) ?_;refine Xq Ak ?_;refine ⟨_,rfl,?_⟩
     apply Y0;refine Cf ?_;apply BA;apply Ai;refine Yn<|AWp.region ?_;refine Wq AR ?_;refine Wm ?_;apply AWl.nil
     refine ALoop.next (k - (i+1)) (by omega) ⟨i+1,by omega,rfl,rfl⟩ ?_
     exact Aq (by exact Yd<|Yd<|Yd<|Yd<|Yd<|Yd<|FrLe.nil) (by exact HpLe.nil)
    ·obtain rfl : i = k := by omega
     apply Y1;refine Wq Ak ?_;refine Y0<|Ac ?_;refine Cf ?_;apply AZ;apply AE;apply AM;apply AF;apply Ai;refine Yn<|AWp.region ?_;refine Wq AR ?_;refine Wm ?_;apply AWl.nil
     refine ALoop.next (z - (i+1)) (by omega) ⟨i+1,by omega,rfl,rfl⟩ ?_
     exact Aq (by exact Yd<|Yd<|Yd<|FrLe.nil) (by exact HpLe.nil)
  ·obtain rfl : k = z := by omega
   apply Y1;refine Wq Am ?_;refine Y0<|Ac ?_;refine Ct ?_;refine Ys<|Ac<|AWp.block<|Y1<|Wm<|Wa<|Y0<|Y1<|Wm<|Wm<|Y0<|AWp.block ?_
   refine Ba (fun mz σ=>∃ i,i≤w∧mz = w - i∧σ = ⟨[(0,.d (Ee n n M)),(6,.d (ex (.int .i64 (n:Nat)))),(7,.d (ex (.int .i64 (k:Nat)))),(3,.d (ex (.int .i64 (k:Nat)))),(10,.d (ex (.int .i64 (k:Nat)))),(11,.d (ex (.int .i64 (i:Nat))))],[]⟩) ?lei ⟨0,by omega,rfl,rfl⟩ ?roundi
   case lei=>exact Aq (by exact Yd<|Yd<|Yd<|Yd<|Yd<|Yd<|FrLe.nil) (by exact HpLe.nil)
   case roundi =>
    rintro mz _ ⟨i,hi,rfl,rfl⟩
    by_cases hlti:i<w
    ·have hq:Hj (M k i) (M i k) = 0:=Gn.2 (h' i hlti)
     have cc:=Gm (M k i) (M i k) ((hM k i).mono hN) ((hM i k).mono hN)
     rw [hq] at cc
     apply Y1;refine Wq Am ?_;refine Y0<|Ac ?_;refine Ct ?_;refine Ys<|Ac<|AWp.block<|Y1<|Wm<|Wa<|Y0<|Ac ?_
     refine Dr [[],[],[(14,0),(15,1)],[(16,2)],[],[(17,3),(18,4)],[(19,5)],[],[],[(21,7),(22,8)],[(23,9)],[],[(24,10),(25,11)],[(26,12)],[(20,6),(27,13)],[(28,14)]] [[],[],[0,1],[0,1,2],[],[0,1,2,3,4],[0,1,2,3,4,5],[],[],[7,8],[7,8,9],[],[7,8,9,10,11],[7,8,9,10,11,12],[0,1,2,3,4,5,6,7,8,9,10,11,12,13],[0,1,2,3,4,5,6,7,8,9,10,11,12,13,14]] ?_
     refine Xq Af ?_;refine Xq Af ?_;refine Xq (BD (k:=k) rfl (ah rfl) (Ad rfl) (Ad rfl) rfl (by omega)) ?_;refine Xq BS ?_;refine Xq Af ?_;refine Xq (BD (k:=i) rfl (ah rfl) (Ad rfl) (Ad rfl) rfl (by omega)) ?_;refine Xq AA ?_;refine Xq Af ?_;refine Xq Af ?_;refine Xq (BD (k:=i) rfl (ah rfl) (Ad rfl) (Ad rfl) rfl (by omega)) ?_;refine Xq BS ?_;refine Xq Af ?_;refine Xq (BD (k:=k) rfl (ah rfl) (Ad rfl) (Ad rfl) rfl (by omega)) ?_;refine Xq AA ?_;refine Xq (Ag (cc)) ?_;refine Xq Ak ?_;refine ⟨_,rfl,?_⟩
     apply Y0;refine Cf ?_;apply BA;apply Ai;refine Yn<|AWp.region ?_;refine Wq AR ?_;refine Wm ?_;apply AWl.nil
     refine ALoop.next (w - (i+1)) (by omega) ⟨i+1,by omega,rfl,rfl⟩ ?_
     exact Aq (by exact Yd<|Yd<|Yd<|Yd<|Yd<|Yd<|FrLe.nil) (by exact HpLe.nil)
    ·obtain rfl : i = w := by omega
     have hq:Hj (M k i) (M i k) ≠ 0:=fun e=>hbad (Gn.1 e)
     have cc:=Gm (M k i) (M i k) ((hM k i).mono hN) ((hM i k).mono hN)
     generalize Hj (M k i) (M i k) = u at hq cc
     apply Y1;refine Wq Am ?_;refine Y0<|Ac ?_;refine Ct ?_;refine Ys<|Ac<|AWp.block<|Y1<|Wm<|Wa<|Y0<|Ac ?_
     refine Dr [[],[],[(14,0),(15,1)],[(16,2)],[],[(17,3),(18,4)],[(19,5)],[],[],[(21,7),(22,8)],[(23,9)],[],[(24,10),(25,11)],[(26,12)],[(20,6),(27,13)],[(28,14)]] [[],[],[0,1],[0,1,2],[],[0,1,2,3,4],[0,1,2,3,4,5],[],[],[7,8],[7,8,9],[],[7,8,9,10,11],[7,8,9,10,11,12],[0,1,2,3,4,5,6,7,8,9,10,11,12,13],[0,1,2,3,4,5,6,7,8,9,10,11,12,13,14]] ?_
     refine Xq Af ?_;refine Xq Af ?_;refine Xq (BD (k:=k) rfl (ah rfl) (Ad rfl) (Ad rfl) rfl (by omega)) ?_;refine Xq BS ?_;refine Xq Af ?_;refine Xq (BD (k:=i) rfl (ah rfl) (Ad rfl) (Ad rfl) rfl (by omega)) ?_;refine Xq AA ?_;refine Xq Af ?_;refine Xq Af ?_;refine Xq (BD (k:=i) rfl (ah rfl) (Ad rfl) (Ad rfl) rfl (by omega)) ?_;refine Xq BS ?_;refine Xq Af ?_;refine Xq (BD (k:=k) rfl (ah rfl) (Ad rfl) (Ad rfl) rfl (by omega)) ?_;refine Xq AA ?_;refine Xq (Ag (cc)) ?_;refine Xq Am ?_;refine ⟨_,rfl,?_⟩
     apply Y0;refine Ct ?_;refine Y1<|Wa<|Y0 ?_;apply As;apply Bf;apply AJ;apply CK;apply Bf;apply Bf;apply AJ;apply CK;apply Bf;apply AJ
     exact Yf
def Jz (ms : List (Nat→Int)):D:=slD 70 8 (ms.map Cd)
def KB (ms : List (Nat→Int)) (row:Nat→Rat) (d:Rat):Nat→List Tm
 | 0=>[]
 | j+1=>if row j = 0 then KB ms row d j else CW (KB ms row d j) [⟨row j / d,ms.getD j default⟩]
theorem Lw {a b:Rat} (ha:a ≠ 0) (hb:b ≠ 0):a / b ≠ 0:=fun e=>ha (by
 have:a / b*b = a:=by rw [Rat.div_def,Rat.mul_assoc,Rat.inv_mul_cancel _ hb,Rat.mul_one]
 rw [e,Rat.zero_mul] at this
 exact this.symm)
theorem GG {a : Rat} (h:a ≠ 0):a.num ≠ 0:=fun e=>h (Rat.num_eq_zero.1 e)
theorem RSz.divQ {p q:Rat} {N M:Nat} (hp:RSz p N) (hq:RSz q M) (h:q ≠ 0):RSz (p / q) (N+M):=by
 rw [Rat.div_def];exact hp.mul (hq.inv (GG h))
theorem RSz.subQ {p q:Rat} {N M:Nat} (hp:RSz p N) (hq:RSz q M):RSz (p - q) (N+M+1):=by
 rw [Rat.sub_eq_add_neg];exact hp.add hq.neg
theorem Rp {ms : List (Nat→Int)} {row:Nat→Rat} {d:Rat} {S:Nat} {e:Int} (hm:∀ m∈ms,In8 m 0 e) (hr:∀ j,RSz (row j) S) (hd:RSz d S) (h0:d ≠ 0):∀ j,j≤ms.length→PB (KB ms row d j) j (j*(S+S+1)) e
 | 0,_=>PB.nil
 | j+1,hj=>by
  have ih:=Rp hm hr hd h0 j (by omega)
  rw [KB]
  split
  ·exact ih.mono (by omega) (Nat.mul_le_mul_right _ (by omega)) (Int.le_refl _)
  ·rename_i hz
   have hmj:ms.getD j default∈ms:=by
    rw [List.getD_eq_getElem?_getD,List.getElem?_eq_getElem (by omega)]
    exact List.getElem_mem _
   have h1:PB [⟨row j / d,ms.getD j default⟩] 1 (S+S) e:=GC (Lw hz h0) ((hr j).divQ hd h0) (hm _ hmj)
   exact (ih.add h1).mono (Nat.le_refl _) (by rw [Nat.succ_mul];omega) (by omega)
theorem Ro (ms : List (Nat→Int)) (row:Nat→Rat) (d:Rat) (n S:Nat) (e:Int) (hn:ms.length = n) (hn1:n≤100) (hm:∀ m∈ms,In8 m 0 e) (he:e≤65535) (hr:∀ j,RSz (row j) S) (hd:RSz d S) (h0:d ≠ 0) (hS:S≤10000000) (L:List HE) (i b c:Nat) (hi:L[i]? = some ⟨b,54,Bh row n⟩) :
  Con Tryz.prog 53 [.d (Jz ms),.d (sX b n c),.d (BF (BH d))] [.obj (Bo L)] [] (fun r hp'=>r = .d (BF (sqC ⟨d,KB ms row d n⟩))∧∃ (T1 T2:TypeId) (c1 c2:List D),hp' = [.obj (Bo L),.dead,.var T1 (c1.map .d),.var T2 (c2.map .d)]):=by
 refine MB Tryz.func53 rfl (AG Tryz.func53 (by kernel_rfl) (by kernel_rfl)) rfl fun s0 pv0=>?_
 rw [Tryz.ntmps53]
 apply Y1;refine Bx ?_;refine Al ?_;refine Y0<|Y1<|Wa<|Y0<|Ac<|Y1<|Wm ?_;refine Wq (Jt (ao rfl) (Ad rfl)) ?_;refine Wm<|Y0<|AWp.block ?_
 refine Ba (fun mz σ=>∃ k,k≤n∧mz = n - k∧σ = ⟨[(0,.d (Jz ms)),(5,.ptr 2 0),(6,.ptr 3 0),(7,.d (Bi (KB ms row d k))),(12,.d (sX b n c)),(13,.d (ex (.int .i64 (n:Nat)))),(14,.d (ex (.int .i64 (k:Nat))))],[.obj (Bo L),.pin [(pv0,.own 0)],.var 54 ((BH d).map .d),.var 56 (([ex (.bool false),ex (.slice none 0 0),ex (.bool false),ex (.slice none 0 0),ex (.slice none 0 0)]:List D).map .d)]⟩) ?le ⟨0,by omega,rfl,rfl⟩ ?round
 case le=>exact Aq (by exact Yd<|Yp<|Yp<|FrLe.cons rfl (AVle.le Fk)<|Yd<|Yd<|Yd<|FrLe.nil) (by exact HpLe.cons (OwLe.obj rfl)<|HpLe.cons (BV rfl)<|Yv<|Yv<|HpLe.nil)
 case round =>
  rintro mz _ ⟨k,hk,rfl,rfl⟩
  by_cases hlt:k<n
  ·have hb := Rp (ms := ms) hm hr hd h0 k (by omega)
   have hkS:k*(S+S+1)≤100*20000001:=Nat.mul_le_mul (by omega) (by omega)
   by_cases hz:row k = 0
   ·have hs : (row k).num.sign = 0 := by rw [hz]; rfl
    have e1:KB ms row d (k+1) = KB ms row d k:=by rw [KB,if_pos hz]
    apply Y1;refine Wq Am ?_;refine Y0<|Ac ?_;refine Ct ?_;refine Ys<|Ac<|AWp.block<|Y1<|Wm ?_;refine Wq (BI (k:=k) (ao rfl) (ao rfl) (Ad rfl) (Ad rfl) hlt) ?_;refine Wq (DQ (e:=⟨b,54,Bh row n⟩) 0 i (ao rfl) rfl hi (Ad rfl) rfl (BE hlt)) ?_;refine Al ?_;refine Wa ?_;refine Sf ?_;refine Y0<|Ac<|Y1 ?_;refine Wq Ar ?_;refine Wq (Ag (BR (row k))) ?_;refine Wq Am ?_;apply Y0;refine Ct ?_;apply AZ;apply AE;apply AF;refine Yn<|AWp.region ?_;refine Wq AR ?_;refine Wm ?_;apply AWl.nil
    refine ALoop.next (n - (k+1)) (by omega) ⟨k+1,by omega,rfl,rfl⟩ ?_
    exact Aq (by exact Yd<|Yp<|Yp<|FrLe.cons rfl (AVle.le (Do e1.symm))<|Yd<|Yd<|Yd<|FrLe.nil) (by exact HpLe.cons (OwLe.obj rfl)<|HpLe.cons (BV rfl)<|Yv<|Yv<|HpLe.nil)
   ·have hs:(row k).num.sign ≠ 0:=fun e=>hz (CT.1 e)
    have e1:KB ms row d (k+1) = CW (KB ms row d k) [⟨row k / d,ms.getD k default⟩]:=by rw [KB,if_neg hz]
    have hmj:ms.getD k default∈ms:=by
     rw [List.getD_eq_getElem?_getD,List.getElem?_eq_getElem (by omega)]
     exact List.getElem_mem _
    have h1:PB [⟨row k / d,ms.getD k default⟩] 1 (S+S) e:=GC (Lw hz h0) ((hr k).divQ hd h0) (hm _ hmj)
    have hkl:k<ms.length:=by omega
    apply Y1;refine Wq Am ?_;refine Y0<|Ac ?_;refine Ct ?_;refine Ys<|Ac<|AWp.block<|Y1<|Wm ?_;refine Wq (BI (k:=k) (ao rfl) (ao rfl) (Ad rfl) (Ad rfl) hlt) ?_;refine Wq (DQ (e:=⟨b,54,Bh row n⟩) 0 i (ao rfl) rfl hi (Ad rfl) rfl (BE hlt)) ?_;refine Al ?_;refine Wa ?_;refine Sf ?_;refine Y0<|Ac<|Y1 ?_;refine Wq Ar ?_;refine Wq (Ag (BR (row k))) ?_;refine Wq Ak ?_;apply Y0;refine Cf ?_;refine Ys<|Y1 ?_;refine Wq Ar ?_;refine Wq Ar ?_;refine Wq (Ag (TJ (row k) d S S (hr k) hd (by omega) (GG h0))) ?_;refine Wm ?_;refine Wq Bl ?_;refine Wq Bl ?_;refine Al ?_;refine Sf ?_;refine Wa<|Y0 ?_
    refine Dr [[],[],[],[],[(30,2),(31,3)],[(32,4)],[(29,1),(33,5)],[(34,6)],[(28,0),(35,7)]] [[],[],[],[],[2,3],[2,3,4],[1,2,3,4,5],[1,2,3,4,5,6],[0,1,2,3,4,5,6,7]] ?_
    refine Xq Af ?_;refine Xq Ar ?_;refine Xq Af ?_;refine Xq Af ?_;refine Xq Az ?_;refine Xq AA ?_;(refine Hq rfl ?_;refine BO (Ad rfl) rfl rfl rfl ?_;(repeat ((first | refine ⟨_,AK (ah rfl),?_⟩ | refine ⟨_,Po rfl,?_⟩);refine ⟨_,rfl,?_⟩));refine ⟨_,rfl,?_⟩;refine ⟨_,rfl,?_⟩);(refine Xq (By (ah rfl) (Ad rfl) (Ad rfl) rfl rfl rfl rfl rfl) ?_);refine Xq (Ag (Jx hb h1 (by omega) (by omega))) ?_;refine ⟨_,rfl,?_⟩
    refine Wa ?_;apply AWl.nil;apply Ai;refine Yn<|AWp.region ?_;refine Wq AR ?_;refine Wm ?_;apply AWl.nil
    refine ALoop.next (n - (k+1)) (by omega) ⟨k+1,by omega,rfl,rfl⟩ ?_
    exact Aq (by exact Yd<|Yp<|Yp<|FrLe.cons rfl (AVle.le (Do e1.symm))<|Yd<|Yd<|Yd<|FrLe.nil) (by exact HpLe.cons (OwLe.obj rfl)<|HpLe.cons (BV rfl)<|Yv<|Yv<|HpLe.nil)
  ·obtain rfl : k = n := by omega
   apply Y1;refine Wq Ak ?_;refine Y0<|Ac ?_;refine Cf ?_;apply AZ;apply AE;apply AM;apply AF;refine Yn<|Y1 ?_;refine Wq Ar ?_;refine Wm ?_;(refine Cz rfl rfl ?_;(refine BO (Ad rfl) rfl rfl rfl ?_;(repeat ((first | refine ⟨_,AK (ao rfl),?_⟩ | refine ⟨_,Po rfl,?_⟩);refine ⟨_,rfl,?_⟩));refine ⟨_,rfl,?_⟩));refine Sf ?_;apply Y0;apply As
   refine FD (RetsA.d (Rets.of1 (ResV.cell rfl rfl (Ad rfl) rfl rfl rfl) (D.le.refl _))) rfl ?_ rfl
   exact ⟨rfl,_,_,_,_,rfl⟩
section
variable {P : Program} {s0:An} {n:Nat} {ops:Array Oper} {Q:Exit→AS→Prop} {rest:List Oper} {fr:List (Nat × AV)} {hp:List Ow} {ty:TypeId} {ps:String} {af:Array Edge}
theorem VL {x y:Operand} {t T bytes id m b e c0 T0:Nat} {z z':Value} {d:TypeDesc} {fr':List (Nat × AV)} {hpf:Nat→List Ow} {L:List HE} {g0:Nat} (id2 i:Nat) (f:Nat→Rat) (len:Nat) (hx:AS.arg ⟨fr,hp⟩ x = .own id) (hh:hp[id]? = some (.row T 4 [])) (h0:0<len) (hy:AS.arg ⟨fr,hp⟩ y = .d (sX g0 len c0)) (hh2:hp[id2]? = some (.obj (Bo L))) (hi:L[i]? = some ⟨g0,T0,Bh f len⟩)
  (ht:Tab P t (.slice T) m b z') (hT:Tab P T d 4 bytes z) (hzs:z.cells.size = 4) (hd:Nat.blt e n = true) (hbytes:Nat.ble bytes 65536 = true) (hl:len≤1000000) (hf:DN id (slD T 4 []) fr = some fr') (hpl:PlainHp id hp) (hs:∀ g,Db hp id (.obj (Bo [⟨g,T,Bh f len⟩])) = some (hpf g))
  (h:∀ g c,len≤c→AWl P s0 n ops Q rest ⟨(e,.d (sX g len c)) :: fr',hpf g⟩):AWl P s0 n ops Q (⟨some e,.call { callee:=.builtin .append,args:=#[x,y],argTypes:=#[t,t] },ty,ps,af,none⟩ :: rest) ⟨fr,hp⟩:=by
 have hlr:((List.range len).map fun j=>BH (f j)).length = len:=by simp
 have hb:bytes≤65536:=by simpa [Nat.ble_eq] using hbytes
 refine ZM id2 i ((List.range len).map fun j=>BH (f j)) hx hh (fun k hk=>?_) (by rw [hlr];exact h0) hy hlr.symm hh2 hi ht hT hzs hd ?_ (by rw [hlr];omega) hf hpl hs fun g c hc=>?_
 ·rw [hlr] at hk
  rw [List.getD_eq_getElem?_getD,List.getElem?_map,List.getElem?_range hk]
  exact Dy _
 ·rw [hlr]
  exact Nat.le_trans (Nat.mul_le_mul hl hb) (by decide)
 ·rw [hlr] at hc ⊢
  exact h g c hc
theorem SC {x y:Operand} {t T bytes id m b e:Nat} {z z':Value} {d:TypeDesc} {fr':List (Nat × AV)} {hpf:Nat→List Ow} (f:Nat→Rat) (len:Nat) (hx:AS.arg ⟨fr,hp⟩ x = .own id) (hh:hp[id]? = some (.row T 4 [])) (h0:0<len) (hy:Et hp (AS.arg ⟨fr,hp⟩ y) = some (Uf f len))
  (ht:Tab P t (.slice T) m b z') (hT:Tab P T d 4 bytes z) (hzs:z.cells.size = 4) (hd:Nat.blt e n = true) (hbytes:Nat.ble bytes 65536 = true) (hl:len≤1000000) (hf:DN id (slD T 4 []) fr = some fr') (hpl:PlainHp id hp) (hs:∀ g,Db hp id (.obj (Bo [⟨g,T,Bh f len⟩])) = some (hpf g))
  (h:∀ g c,len≤c→AWl P s0 n ops Q rest ⟨(e,.d (sX g len c)) :: fr',hpf g⟩):AWl P s0 n ops Q (⟨some e,.call { callee:=.builtin .append,args:=#[x,y],argTypes:=#[t,t] },ty,ps,af,none⟩ :: rest) ⟨fr,hp⟩:=by
 have hlr:((List.range len).map fun j=>BH (f j)).length = len:=by simp
 have hb:bytes≤65536:=by simpa [Nat.ble_eq] using hbytes
 refine ZN (r2:=(List.range len).map fun j=>BH (f j)) hx hh (fun k hk=>?_) (by rw [hlr];exact h0) hy ht hT hzs hd ?_ (by rw [hlr];omega) hf hpl hs fun g c hc=>?_
 ·rw [hlr] at hk
  rw [List.getD_eq_getElem?_getD,List.getElem?_map,List.getElem?_range hk]
  exact Dy _
 ·rw [hlr]
  exact Nat.le_trans (Nat.mul_le_mul hl hb) (by decide)
 ·rw [hlr] at hc ⊢
  exact h g c hc
end
theorem FG {x y z:AS} (h:AS.le x y) (h':AS.le y z):AS.le x z:=fun s0 n a w hs=>h' s0 n a w (h s0 n a w hs)
def Ht (M : Nat→Nat→Rat) (p a q:Nat):Rat:=M a q - M p a / M p p*M p q
def FH (M : Nat→Nat→Rat) (p k i a q:Nat):Rat:=if a<k∨(a = k∧q<i) then Ht M p a q else M a q
theorem Uj (M : Nat→Nat→Rat) (p:Nat):FH M p 0 0 = M:=by
 funext a q
 rw [FH,if_neg (by omega)]
theorem Te {M : Nat→Nat→Rat} {p k i:Nat}:FH M p k i k i = M k i:=by rw [FH,if_neg (by omega)]
theorem Uk (M : Nat→Nat→Rat) (p k i:Nat):Yx (FH M p k i) k i (FH M p k i k i - M p k / M p p*M p i) = FH M p k (i+1):=by
 funext a q
 rw [Te]
 unfold Yx Dv
 by_cases h:a = k
 ·subst h
  rw [if_pos rfl]
  by_cases hq:q = i
  ·subst hq
   rw [if_pos rfl,FH,if_pos (by omega)]
   rfl
  ·rw [if_neg hq]
   unfold FH
   by_cases hc:q<i
   ·rw [if_pos (by omega),if_pos (by omega)]
   ·rw [if_neg (by omega),if_neg (by omega)]
 ·rw [if_neg h]
  unfold FH
  by_cases hc:a<k
  ·rw [if_pos (by omega),if_pos (by omega)]
  ·rw [if_neg (by omega),if_neg (by omega)]
theorem WH {M : Nat→Nat→Rat} {p k n a q:Nat} (hq:q<n):FH M p k n a q = FH M p (k+1) 0 a q:=by
 unfold FH
 by_cases hc:a<k+1
 ·rw [if_pos (by omega),if_pos (by omega)]
 ·rw [if_neg (by omega),if_neg (by omega)]
theorem WI {M : Nat→Nat→Rat} {p n a q:Nat} (ha:a<n):FH M p n 0 a q = Ht M p a q:=by
 rw [FH,if_pos (by omega)]
theorem YL {M : Nat→Nat→Rat} {p S:Nat} (hM:∀ i j,RSz (M i j) S) (h0:M p p ≠ 0):∀ i j,RSz (Ht M p i j) (S+(S+S+S)+1):=fun i j=>(hM i j).subQ (((hM p i).divQ (hM p p) h0).mul (hM p j))
theorem RA (n p S b0 c0:Nat) (b c:Nat→Nat) (M:Nat→Nat→Rat) (hp:p<n) (hn:n≤100) (hM:∀ i j,RSz (M i j) S) (hS:S≤10000000) (h0:M p p ≠ 0) :
  Con Tryz.prog 54 [.d (sX b0 n c0),.d (ex (.int .i64 (p:Nat)))] [.obj (Bo (DM b0 n n b c M))] [] (fun r hp'=>r = .d Ds∧∃ g,hp' = [.obj (Bo (DM b0 n n b c (Ht M p))),.dead,.obj (Bo [⟨g,54,Bh (M p) n⟩])]):=by
 have hnp:0<n:=by omega
 have hn1:n≤1000000:=by omega
 refine MB Tryz.func54 rfl (AG Tryz.func54 (by kernel_rfl) (by kernel_rfl)) rfl fun s0 pv0=>?_
 rw [Tryz.ntmps54]
 apply Y1;refine EA (Ad rfl) (Ad rfl) rfl rfl rfl rfl rfl ?_;refine Wm<|Wm ?_;refine Wq (BI (k:=p) (ao rfl) (ao rfl) (Ad rfl) (Ad rfl) hp) ?_;refine Wq (Em 0 0 (ao rfl) rfl CU (Ad rfl) rfl (CO hp (Nat.le_refl n))) ?_;(refine VL 0 (p+1) (M p) n (ao rfl) rfl hnp (ao rfl) rfl (Dg hp) (Ad rfl) (Ad rfl) rfl rfl rfl hn1 rfl (by first | ((repeat (first | exact PlainHp.nil | refine PlainHp.var ?_ | refine CX ?_ | refine PlainHp.dead ?_ | refine PlainHp.obj ?_ | refine PlainHp.pin rfl ?_ | refine CH rfl ?_));done) | fail) (fun g=>rfl) fun g cg hcg=>?_);refine Wa<|Y0<|Y1<|Wm ?_;refine Wq (Jt (ao rfl) (Ad rfl)) ?_;refine Wm<|Y0<|AWp.block ?_
 refine Ba (fun mz σ=>∃ k,k≤n∧mz = n - k∧σ = ⟨[(0,.d (sX b0 n c0)),(1,.d (ex (.int .i64 (p:Nat)))),(4,.d (sX g n cg)),(15,.d (sX b0 n c0)),(16,.d (ex (.int .i64 (n:Nat)))),(17,.d (ex (.int .i64 (k:Nat))))],[.obj (Bo (DM b0 n n b c (FH M p k 0))),.pin [(pv0,.own 0)],.obj (Bo [⟨g,54,Bh (M p) n⟩])]⟩) ?le ⟨0,by omega,rfl,rfl⟩ ?round
 case le=>exact Aq (by exact Yd<|Yd<|Yd<|Yd<|Yd<|Yd<|FrLe.nil) (by exact HpLe.cons (OwLe.obj (by rw [Uj]))<|HpLe.cons (BV rfl)<|HpLe.cons (OwLe.obj rfl)<|HpLe.nil)
 case round =>
  rintro mz _ ⟨k,hk,rfl,rfl⟩
  by_cases hlt:k<n
  ·apply Y1;refine Wq Am ?_;refine Y0<|Ac ?_;refine Ct ?_;refine Ys<|Ac<|AWp.block<|Y1<|Wm<|Wa<|Y0<|Ac ?_
   refine Hc (En (e:=11) (by kernel_rfl) (K4 (K4 (K4 (AddE.keep (AddE.add (AddE.keep AddE.nil)))))) (by kernel_rfl)) [[],[],[(21,0),(22,1)],[(23,2)],[],[],[(25,4),(26,5)],[(27,6)],[(24,3),(28,7)],[(29,8)],[(20,9)],[(20,9)],[]] [[],[],[0,1],[0,1,2],[],[],[4,5],[4,5,6],[0,1,2,3,4,5,6,7],[0,1,2,3,4,5,6,7,8],[0,1,2,3,4,5,6,7,8,9],[0,1,2,3,4,5,6,7,8,9],[]] rfl (by kernel_rfl) (by kernel_rfl) (by kernel_rfl) ?_
   refine Xq Af ?_;refine Xq Af ?_;refine Xq (BI (k:=k) (ah rfl) (ah rfl) (Ad rfl) (Ad rfl) hlt) ?_;refine Xq (DQ (e:=⟨g,54,Bh (M p) n⟩) 2 0 (ah rfl) rfl rfl (Ad rfl) rfl (BE hlt)) ?_;refine Xq Af ?_;refine Xq Af ?_;refine Xq (BI (k:=p) (ah rfl) (ah rfl) (Ad rfl) (Ad rfl) hp) ?_;refine Xq (DQ (e:=⟨g,54,Bh (M p) n⟩) 2 0 (ah rfl) rfl rfl (Ad rfl) rfl (BE hp)) ?_;refine Xq (Ag (TJ (M p k) (M p p) S S (hM p k) (hM p p) (by omega) (GG h0))) ?_;refine Xq Af ?_;refine Xq Bl ?_;refine Xq Bl ?_;refine Xn ?_;refine ⟨_,rfl,?_⟩
   refine Sf ?_;refine Wa ?_;apply AWl.nil;apply OnlyN.mk';refine Yn<|Y1<|Wm<|Wm ?_;refine Wq (BI (k:=k) (ao rfl) (ao rfl) (Ad rfl) (Ad rfl) hlt) ?_;refine Wq (Em 0 0 (ao rfl) rfl CU (Ad rfl) rfl (CO hlt (Nat.le_refl n))) ?_;refine Wq (Jt (ao rfl) (Ad rfl)) ?_;refine Wm<|Y0<|AWp.block ?_
   refine Ba (fun mz σ=>∃ i,i≤n∧mz = n - i∧σ = ⟨[(0,.d (sX b0 n c0)),(1,.d (ex (.int .i64 (p:Nat)))),(4,.d (sX g n cg)),(15,.d (sX b0 n c0)),(16,.d (ex (.int .i64 (n:Nat)))),(17,.d (ex (.int .i64 (k:Nat)))),(5,.d (ex (.int .i64 (k:Nat)))),(6,.ptr 3 0),(35,.d (sX (b k) n (c k))),(36,.d (ex (.int .i64 (n:Nat)))),(37,.d (ex (.int .i64 (i:Nat))))],[.obj (Bo (DM b0 n n b c (FH M p k i))),.pin [(pv0,.own 0)],.obj (Bo [⟨g,54,Bh (M p) n⟩]),.var 54 ((BH (M p k / M p p)).map .d)]⟩) ?lei ⟨0,by omega,rfl,rfl⟩ ?roundi
   case lei=>exact Aq (by exact Yd<|Yd<|Yd<|Yd<|Yd<|Yd<|Yd<|Yp<|Yd<|Yd<|Yd<|FrLe.nil) (by exact HpLe.cons (OwLe.obj rfl)<|HpLe.cons (BV rfl)<|HpLe.cons (OwLe.obj rfl)<|Yv<|HpLe.nil)
   case roundi =>
    rintro mz _ ⟨i,hi,rfl,rfl⟩
    by_cases hlti:i<n
    ·have hz : RSz (FH M p k i k i) S := by rw [Te]; exact hM k i
     have hf:RSz (M p k / M p p) (S+S):=(hM p k).divQ (hM p p) h0
     apply Y1;refine Wq Am ?_;refine Y0<|Ac ?_;refine Ct ?_;refine Ys<|Ac<|AWp.block<|Y1<|Wm<|Wa<|Y0 ?_
     refine Dr [[],[],[(40,0),(41,1)],[(42,2)],[],[],[],[(45,5),(46,6)],[(47,7)],[],[(48,8),(49,9)],[(50,10)],[],[],[],[(53,13),(54,14)],[(55,15)],[(52,12),(56,16)],[(51,11),(57,17)],[(43,3),(44,4)]] [[],[],[0,1],[0,1,2],[],[],[],[5,6],[5,6,7],[],[5,6,7,8,9],[5,6,7,8,9,10],[],[],[],[13,14],[13,14,15],[12,13,14,15,16],[5,6,7,8,9,10,11,12,13,14,15,16,17],[0,1,2,3,4,5,6,7,8,9,10,11,12,13,14,15,16,17,18]] ?_
     refine Xq Af ?_;refine Xq Af ?_;refine Xq (BI (k:=k) (ah rfl) (ah rfl) (Ad rfl) (Ad rfl) hlt) ?_;refine Xq (Em 0 0 (ah rfl) rfl CU (Ad rfl) rfl (CO hlt (Nat.le_refl n))) ?_;refine Xq Af ?_;refine Xq Af ?_;refine Xq Af ?_;refine Xq (BI (k:=k) (ah rfl) (ah rfl) (Ad rfl) (Ad rfl) hlt) ?_;refine Xq (Em 0 0 (ah rfl) rfl CU (Ad rfl) rfl (CO hlt (Nat.le_refl n))) ?_;refine Xq Af ?_;refine Xq (BI (k:=i) (ah rfl) (ah rfl) (Ad rfl) (Ad rfl) hlti) ?_;refine Xq (DQ (e:=⟨b k,54,Bh (FH M p k i k) n⟩) 0 (k+1) (ah rfl) rfl (Dg hlt) (Ad rfl) rfl (BE hlti)) ?_;refine Xq Ar ?_;refine Xq Af ?_;refine Xq Af ?_;refine Xq (BI (k:=i) (ah rfl) (ah rfl) (Ad rfl) (Ad rfl) hlti) ?_;refine Xq (DQ (e:=⟨g,54,Bh (M p) n⟩) 2 0 (ah rfl) rfl rfl (Ad rfl) rfl (BE hlti)) ?_;refine Xq (Ag (TH (M p k / M p p) (M p i) (S+S) S hf (hM p i) (by omega))) ?_;refine Xq (Ag (Zk (FH M p k i k i) (M p k / M p p*M p i) S (S+S+S) hz (hf.mul (hM p i)) (by omega))) ?_;refine Xq (BI (k:=i) (ah rfl) (ah rfl) (Ad rfl) (Ad rfl) hlti) ?_;refine ⟨_,rfl,?_⟩
     refine KU (e:=⟨b k,54,Bh (FH M p k i k) n⟩) 0 (k+1) (ao rfl) (ao rfl) rfl (Dg hlt) (Ad rfl) rfl (GT hlti) rfl ?_;apply AWl.nil;apply Ai;refine Yn<|AWp.region ?_;refine Wq AR ?_;refine Wm ?_;apply AWl.nil
     refine ALoop.next (n - (i+1)) (by omega) ⟨i+1,by omega,rfl,rfl⟩ ?_
     exact Aq (by exact Yd<|Yd<|Yd<|Yd<|Yd<|Yd<|Yd<|Yp<|Yd<|Yd<|Yd<|FrLe.nil) (by exact HpLe.cons (OwLe.obj (by rw [UI hlt,Uk]))<|HpLe.cons (BV rfl)<|HpLe.cons (OwLe.obj rfl)<|Yv<|HpLe.nil)
    ·obtain rfl : n = i := by omega
     apply Y1;refine Wq Ak ?_;refine Y0<|Ac ?_;refine Cf ?_;apply AZ;apply AE;apply AM;apply AF;apply Ai;refine Yn<|AWp.region ?_;refine Wq AR ?_;refine Wm ?_;apply AWl.nil
     refine ALoop.next (n - (k+1)) (by omega) ⟨k+1,by omega,rfl,rfl⟩ ?_
     exact Aq (by exact Yd<|Yd<|Yd<|Yd<|Yd<|Yd<|FrLe.nil) (by exact HpLe.cons (OwLe.obj (by rw [Kj fun a ha q hq=>WH hq]))<|HpLe.cons (BV rfl)<|HpLe.cons (OwLe.obj rfl)<|HpLe.nil)
  ·obtain rfl : n = k := by omega
   apply Y1;refine Wq Ak ?_;refine Y0<|Ac ?_;refine Cf ?_;apply AZ;apply AE;apply AM;apply AF
   refine Re Sb rfl ?_ rfl
   exact ⟨rfl,g,by rw [Kj (M:=FH M p n 0) fun a ha q hq=>WI ha]⟩
def AL (M : Nat→Nat→Rat):Nat→Nat→Nat→Rat
 | 0=>M
 | k+1=>if AL M k k k = 0 then AL M k else Ht (AL M k) k
def DA (ms : List (Nat→Int)) (M:Nat→Nat→Rat) (n:Nat):Nat→List Sq
 | 0=>[]
 | k+1=>if AL M k k k = 0 then DA ms M n k else DA ms M n k ++ [⟨AL M k k k,KB ms (AL M k k) (AL M k k k) n⟩]
theorem JS (ms : List (Nat→Int)) (M:Nat→Nat→Rat) (n:Nat):∀ k,(DA ms M n k).length≤k
 | 0=>Nat.le_refl _
 | k+1=>by
  have ih:=JS ms M n k
  rw [DA]
  split
  ·omega
  ·rw [List.length_append]
   exact Nat.succ_le_succ ih
def Fw (M : Nat→Nat→Rat) (n k:Nat):Prop:=0≤AL M k k k∧(AL M k k k = 0→∀ j,j<n→AL M k k j = 0)
def EJ (S : Nat):Nat→Nat
 | 0=>S
 | k+1=>EJ S k+(EJ S k+EJ S k+EJ S k)+1
theorem GO (S : Nat):∀ {k n:Nat},k≤n→EJ S k≤EJ S n
  | k, 0, h => by obtain rfl : k = 0 := by omega
                  exact Nat.le_refl _
  | k,n+1,h=>by
    rcases Nat.lt_or_ge n k with h' | h'
    · obtain rfl : k = n + 1 := by omega
      exact Nat.le_refl _
    · refine Nat.le_trans (GO S h') ?_
      rw [EJ]
      omega
theorem LL {M : Nat→Nat→Rat} {S:Nat} (hM:∀ i j,RSz (M i j) S):∀ k i j,RSz (AL M k i j) (EJ S k)
 | 0,i,j=>hM i j
 | k+1,i,j=>by
  have ih:=LL hM k
  rw [AL,EJ]
  split
  ·exact (ih i j).mono (by omega)
  ·rename_i h
   exact YL ih h i j
theorem UJ {b0 n:Nat} {b c:Nat→Nat} {M:Nat→Nat→Rat}:[⟨b0,63,List.replicate n (ex (.slice none 0 0))⟩] = DM b0 n 0 b c M:=by
 simp only [DM,List.range_zero,List.map_nil]
 congr 2
 rw [List.map_congr_left (g:=fun _=>ex (.slice none 0 0)) fun i _=>if_neg (Nat.not_lt_zero i),List.map_const',List.length_range]
theorem PA {q : Rat} (h:0≤q) (h0:q ≠ 0):q.num.sign = 1:=by
 have h1:=Rat.num_nonneg.2 h
 have h2:=GG h0
 exact Int.sign_eq_one_of_pos (by omega)
section
variable {P : Program} {hp:List Ow} {arg:Operand→AV} {dd:Option Tmp} {ty:TypeId} {ps:String} {af:Array Edge} {gd:Option (Nat × Bool)}
theorem Pg {x : Operand} {t:TypeId} {e n b k:Nat} {z:Value} {ms:List (Nat→Int)} (hx:Et hp (arg x) = some (Jz ms)) (hl:ms.length = k) (ht:Tab P t (.slice e) n b z):Quiet P hp ⟨dd,.call { callee:=.builtin .len,args:=#[x],argTypes:=#[t] },ty,ps,af,gd⟩ arg (.d (ex (.int .i64 (k:Nat)))):=by
 subst hl
 have:=Ju (dd:=dd) (ty:=ty) (ps:=ps) (af:=af) (gd:=gd) hx ht
 simpa using this
end
theorem Wv {q : Rat} (h:q<0):q.num.sign = -1:=by
 have h1:¬ 0≤q.num:=fun h2=>absurd (Rat.num_nonneg.1 h2) (Rat.not_le.2 h)
 exact Int.sign_eq_neg_one_of_neg (by omega)
theorem HF (n S:Nat) (e:Int) (ms:List (Nat→Int)) (M:Nat→Nat→Rat) (hn0:0<n) (hn:n≤100) (hl:ms.length = n) (hm:∀ m∈ms,In8 m 0 e) (he:e≤65535) (hM:∀ i j,RSz (M i j) S) (hS:EJ S n≤10000000) (hsy:∀ i,i<n→∀ j,j<i→M i j = M j i) (z:Nat) (hzn:z≤n) (hok:∀ k,k<z→Fw M n k) (r:D) (hend:(z = n∧r = Da [Io (DA ms M n n),ex (.int .i64 0)])∨(z<n∧r = Da [Io [],ex (.int .i64 280)]∧(AL M z z z<0∨AL M z z z = 0∧∃ w,w<n∧(∀ j,j<w→AL M z z j = 0)∧AL M z z w ≠ 0))) :
  Abs Tryz.prog 17 [Jz ms,Ee n n M] r:=by
 have hS0:S≤10000000:=Nat.le_trans (GO S (Nat.zero_le n)) hS
 have hn1:n≤1000000:=by omega
 refine Ab Tryz.func17 fun s0=>?_
 rw [Tryz.ntmps17]
 refine Y1<|Wa<|Wa<|Y0<|Y1<|Wm ?_;refine Wq (Pg rfl hl (Ad rfl)) ?_;refine Wa<|Y0<|Ac<|Y1<|Wm ?_;refine Wq (Ag (IE n n M S hM (by omega) (by omega) (by omega))) ?_;refine Wq Br ?_;refine Wm ?_;refine Wg Af ?_;refine Wg (DJ rfl (Ad rfl)) ?_;refine Wg Af ?_;refine Wg Ak ?_;refine Wq AD ?_;refine Wm ?_;refine Wg Af ?_;refine Wg Am ?_;refine Wg Af ?_;refine Wg Af ?_;refine Wg (BD (k:=0) rfl (ao rfl) (Ad rfl) (Ad rfl) rfl hn0) ?_;refine Wg BS ?_;refine Wg (DJ rfl (Ad rfl)) ?_;refine Wg Af ?_;refine Wg Ak ?_;refine Wg AP ?_;refine Wq AD ?_;apply Y0;refine Cf ?_;refine Ys<|Ac<|Y1<|Wm ?_;refine Wq (Ag (Wi n M S hM (by omega) (by omega) hsy)) ?_;refine Wq Br ?_;apply Y0;refine Cf ?_;refine Ys<|Y1<|Wm ?_;refine ZJ (ao rfl) (ao rfl) (Ad rfl) (Ad rfl) rfl rfl hn1 rfl rfl rfl rfl (fun g=>rfl) fun b0=>?_;refine Wa<|Y0<|Ac<|Y1<|Wm ?_;refine Wq (DJ rfl (Ad rfl)) ?_;refine Wm<|Y0<|AWp.block ?_
 refine Ba (fun mz σ=>∃ k,k≤n∧mz = n - k∧∃ b c,σ = ⟨[(0,.d (Jz ms)),(6,.d (ex (.int .i64 (n:Nat)))),(7,.d (sX b0 n n)),(43,.d (Ee n n M)),(44,.d (ex (.int .i64 (n:Nat)))),(45,.d (ex (.int .i64 (k:Nat))))],[.obj (Bo (DM b0 n k b c M))]⟩) ?le ⟨0,by omega,rfl,fun _=>0,fun _=>0,rfl⟩ ?round
 case le=>exact Aq (by exact Yd<|Yd<|Yd<|Yd<|Yd<|Yd<|FrLe.nil) (by exact HpLe.cons (OwLe.obj (by rw [UJ]))<|HpLe.nil)
 case round =>
  rintro mz _ ⟨k,hk,rfl,b,c,rfl⟩
  by_cases hlt:k<n
  ·refine Ac<|AWp.region ?_; refine Wq Am ?_; apply AWl.nil; refine Yn<|Ac ?_; refine Ct ?_; apply BA; refine Yn<|Ac<|AWp.block<|Ac<|AWp.region<|Wm ?_; refine Wq (BD (k := k) rfl (ao rfl) (Ad rfl) (Ad rfl) rfl hlt) ?_; refine Wq BS ?_; refine Wa<|Wa ?_; apply AWl.nil; refine Yn<|AWp.region<|Wm<|Wm ?_; refine EA (Ad rfl) (Ad rfl) rfl rfl rfl rfl rfl ?_; refine Wm ?_; (refine SC (M k) n (ao rfl) rfl hn0 rfl (Ad rfl) (Ad rfl) rfl rfl rfl hn1 rfl (by first | ((repeat (first | exact PlainHp.nil | refine PlainHp.var ?_ | refine CX ?_ | refine PlainHp.dead ?_ | refine PlainHp.obj ?_ | refine PlainHp.pin rfl ?_ | refine CH rfl ?_)); done) | fail) (fun g => rfl) fun g cg hcg => ?_); refine Wq (BI (k := k) (ao rfl) (ao rfl) (Ad rfl) (Ad rfl) hlt) ?_; refine Yo 0 0 (ao rfl) (ao rfl) rfl CU (Ad rfl) (GX rfl) (RO hlt) rfl ?_; apply AWl.nil; apply Ai; refine Yn<|AWp.region ?_; refine Wq AR ?_; refine Wm ?_; apply AWl.nil
   refine ALoop.next (n - (k+1)) (by omega) ⟨k+1,by omega,rfl,Dv b k g,Dv c k cg,rfl⟩ ?_
   refine FG (VR 0 1 (by decide) rfl rfl rfl rfl) ?_
   exact Aq (by exact Yd<|Yd<|Yd<|Yd<|Yd<|Yd<|FrLe.nil) (by exact HpLe.cons (OwLe.obj (by rw [RN]))<|HpLe.nil)
  ·obtain rfl : n = k := by omega
   apply Y1;refine Wq Ak ?_;refine Y0<|Ac ?_;refine Cf ?_;apply AZ;apply AE;apply AM;apply AF;refine Yn<|Y1<|Wa<|Y0<|Ac<|Y1<|Wm<|Wm<|Y0<|AWp.block ?_
   refine SE 10 56 5 rfl (by decide) (by decide) rfl rfl ?_
   refine Ba (fun mz σ=>∃ k,k≤z∧mz = z - k∧σ = ⟨[(0,.d (Jz ms)),(6,.d (ex (.int .i64 (n:Nat)))),(7,.d (sX b0 n n)),(10,.own 1),(57,.d (ex (.int .i64 (n:Nat)))),(58,.d (ex (.int .i64 (k:Nat))))],[.obj (Bo (DM b0 n n b c (AL M k))),.row 56 5 ((DA ms M n k).map sqC)]⟩) ?le ⟨0,by omega,rfl,rfl⟩ ?round
   case le=>exact Aq (by exact Yd<|Yd<|Yd<|FrLe.cons rfl (AVle.own rfl)<|Yd<|Yd<|FrLe.nil) (by exact HpLe.cons (OwLe.obj rfl)<|Yr<|HpLe.nil)
   case round =>
    rintro mz _ ⟨k,hk,rfl,rfl⟩
    by_cases hlt:k<z
    ·have hlt0:=hlt
     have hlt:k<n:=by omega
     have hG:=LL hM k;have hL:=JS ms M n k
     have hSk:EJ S k≤10000000:=Nat.le_trans (GO S (show k≤n by omega)) hS
     by_cases hz:AL M k k k = 0
     ·have hs : (AL M k k k).num.sign = 0 := by rw [hz]; rfl
      have hrow:=(hok k hlt0).2 hz
      have e1:AL M (k+1) = AL M k:=by rw [AL,if_pos hz]
      have e2:DA ms M n (k+1) = DA ms M n k:=by rw [DA,if_pos hz]
      apply Y1;refine Wq Am ?_;refine Y0<|Ac ?_;refine Ct ?_;refine Ys<|Ac<|AWp.block<|Y1<|Wm<|Wa<|Y0<|Y1<|Wm<|Wm ?_;refine Wq (BI (k:=k) (ao rfl) (ao rfl) (Ad rfl) (Ad rfl) hlt) ?_;refine Wq (Em 0 0 (ao rfl) rfl CU (Ad rfl) rfl (CO hlt (Nat.le_refl n))) ?_;refine Wm ?_;refine Wq (BI (k:=k) (ao rfl) (ao rfl) (Ad rfl) (Ad rfl) hlt) ?_;refine Wq (DQ 0 (k+1) (e:=⟨b k,54,Bh (AL M k k) n⟩) (ao rfl) rfl (Dg hlt) (Ad rfl) rfl (BE hlt)) ?_;refine Al ?_;refine Sf ?_;refine Y0<|Y1 ?_;refine Wq Ar ?_;refine Wq (Ag (BR (AL M k k k))) ?_;refine Y0<|AWp.block<|Y1 ?_;refine Wq Ak ?_;refine Wa<|Y0 ?_;refine Cf ?_;apply Y1;refine Wq Am ?_;refine Wa<|Y0 ?_;refine Ct ?_;refine Y1<|Wm<|Wm ?_;refine Wq (BI (k:=k) (ao rfl) (ao rfl) (Ad rfl) (Ad rfl) hlt) ?_;refine Wq (Em 0 0 (ao rfl) rfl CU (Ad rfl) rfl (CO hlt (Nat.le_refl n))) ?_;refine Wq (Jt (ao rfl) (Ad rfl)) ?_;refine Wm<|Y0<|AWp.block ?_
      refine Ba (fun mz σ=>∃ i,i≤n∧mz = n - i∧σ = ⟨[(0,.d (Jz ms)),(6,.d (ex (.int .i64 (n:Nat)))),(7,.d (sX b0 n n)),(10,.own 1),(57,.d (ex (.int .i64 (n:Nat)))),(58,.d (ex (.int .i64 (k:Nat)))),(90,.d (sX (b k) n (c k))),(91,.d (ex (.int .i64 (n:Nat)))),(92,.d (ex (.int .i64 (i:Nat))))],[.obj (Bo (DM b0 n n b c (AL M k))),.row 56 5 ((DA ms M n k).map sqC)]⟩) ?lei ⟨0,by omega,rfl,rfl⟩ ?roundi
      case lei=>exact Aq (by exact Yd<|Yd<|Yd<|FrLe.cons rfl (AVle.own rfl)<|Yd<|Yd<|Yd<|Yd<|Yd<|FrLe.nil) (by exact HpLe.cons (OwLe.obj rfl)<|Yr<|HpLe.nil)
      case roundi =>
       rintro mz _ ⟨i,hi,rfl,rfl⟩
       by_cases hlti:i<n
       ·have hs2 : (AL M k k i).num.sign = 0 := by rw [hrow i hlti]; rfl
        apply Y1;refine Wq Am ?_;refine Y0<|Ac ?_;refine Ct ?_;refine Ys<|Ac<|AWp.block<|Y1 ?_;refine Wq (BI (k:=i) (ao rfl) (ao rfl) (Ad rfl) (Ad rfl) hlti) ?_;refine Wq (DQ 0 (k+1) (e:=⟨b k,54,Bh (AL M k k) n⟩) (ao rfl) rfl (Dg hlt) (Ad rfl) rfl (BE hlti)) ?_;refine Al ?_;refine Sf ?_;refine Y0<|Y1 ?_;refine Wq Ar ?_;refine Wq (Ag (BR (AL M k k i))) ?_;refine Wq Ak ?_;apply Y0;refine Cf ?_;apply BA;apply Ai;refine Yn<|AWp.region ?_;refine Wq AR ?_;refine Wm ?_;apply AWl.nil
        refine ALoop.next (n - (i+1)) (by omega) ⟨i+1,by omega,rfl,rfl⟩ ?_
        exact Aq (by exact Yd<|Yd<|Yd<|FrLe.cons rfl (AVle.own rfl)<|Yd<|Yd<|Yd<|Yd<|Yd<|FrLe.nil) (by exact HpLe.cons (OwLe.obj rfl)<|Yr<|HpLe.nil)
       ·obtain rfl : n = i := by omega
        apply Y1;refine Wq Ak ?_;refine Y0<|Ac ?_;refine Cf ?_;apply AZ;apply AE;apply AM;apply AF;apply Ai;apply Ai;refine Yn<|AWp.region ?_;refine Wq AR ?_;refine Wm ?_;apply AWl.nil
        refine ALoop.next (z - (k+1)) (by omega) ⟨k+1,by omega,rfl,rfl⟩ ?_
        exact Aq (by exact Yd<|Yd<|Yd<|FrLe.cons rfl (AVle.own rfl)<|Yd<|Yd<|FrLe.nil) (by exact HpLe.cons (OwLe.obj (by rw [e1]))<|HpLe.cons (Cp (by rw [e2]))<|HpLe.nil)
     ·have hs:(AL M k k k).num.sign = 1:=PA (hok k hlt0).1 hz
      have e1:AL M (k+1) = Ht (AL M k) k:=by rw [AL,if_neg hz]
      have e2:DA ms M n (k+1) = DA ms M n k ++ [⟨AL M k k k,KB ms (AL M k k) (AL M k k k) n⟩]:=by rw [DA,if_neg hz]
      apply Y1;refine Wq Am ?_;refine Y0<|Ac ?_;refine Ct ?_;refine Ys<|Ac<|AWp.block<|Y1<|Wm<|Wa<|Y0<|Y1<|Wm<|Wm ?_;refine Wq (BI (k:=k) (ao rfl) (ao rfl) (Ad rfl) (Ad rfl) hlt) ?_;refine Wq (Em 0 0 (ao rfl) rfl CU (Ad rfl) rfl (CO hlt (Nat.le_refl n))) ?_;refine Wm ?_;refine Wq (BI (k:=k) (ao rfl) (ao rfl) (Ad rfl) (Ad rfl) hlt) ?_;refine Wq (DQ 0 (k+1) (e:=⟨b k,54,Bh (AL M k k) n⟩) (ao rfl) rfl (Dg hlt) (Ad rfl) rfl (BE hlt)) ?_;refine Al ?_;refine Sf ?_;refine Y0<|Y1 ?_;refine Wq Ar ?_;refine Wq (Ag (BR (AL M k k k))) ?_;refine Y0<|AWp.block<|Y1 ?_;refine Wq Ak ?_;refine Wa<|Y0 ?_;refine Cf ?_;apply Y1;refine Wq Ak ?_;refine Wa<|Y0 ?_;refine Cf ?_;apply Ac
      refine Hc (En (e:=0) (by kernel_rfl) (K4 (AddE.keep (AddE.keep (AddE.keep (AddE.add (AddE.keep (AddE.keep (AddE.keep AddE.nil)))))))) (by kernel_rfl)) [[],[],[],[],[(72,2),(73,3)],[(74,4)],[]] [[],[],[],[],[2,3],[2,3,4],[]] rfl (by kernel_rfl) (by kernel_rfl) (by kernel_rfl) ?_
      refine Xq Af ?_;refine Xq Af ?_;refine Xq Af ?_;refine Xq Af ?_;refine Xq (BI (k:=k) (ah rfl) (ah rfl) (Ad rfl) (Ad rfl) hlt) ?_;refine Xq (Em 0 0 (ah rfl) rfl CU (Ad rfl) rfl (CO hlt (Nat.le_refl n))) ?_;refine Xq Ar ?_;refine ⟨_,rfl,?_⟩
      refine Fh [0] [] (Ro ms (AL M k k) (AL M k k k) n (EJ S k) e hl hn hm he (hG k) (hG k k) hz hSk _ (k+1) (b k) (c k) (Dg hlt)) (by first | exact Or.inl rfl | exact Or.inr ⟨by decide,rfl,by repeat (first | exact AvoidR.nil | refine FX rfl ?_ | refine AvoidR.dead ?_ | refine GZ ?_ | refine AvoidR.obj ?_ | refine FV ?_ | refine FW rfl ?_ | refine AvoidR.pin rfl ?_)⟩) rfl rfl (by first | exact .inl ⟨rfl,rfl⟩ | exact .inr ⟨rfl,rfl⟩) (by repeat (first | exact ArgsC.nil | refine ArgsC.d rfl (D.le.refl _) ?_ | refine Ep rfl rfl ?_)) (by decide) (by repeat (first | exact SelR.nil | refine SelR.var rfl ?_ | refine SelR.obj rfl ?_ | refine Jq rfl ?_ | refine Ih rfl rfl rfl ?_)) (by repeat (first | exact trivial | refine ⟨⟨_,_,rfl⟩,?_⟩)) rfl ?_
      rintro _ _ ⟨rfl,T1,T2,c1,c2,rfl⟩
      refine ⟨_,_,_,(by first | exact AVRen.d | exact AVRen.own rfl | exact AVRen.ptr rfl | exact Eq rfl),(by repeat (first | exact SetR.nil | (apply SetR.cons;(first | exact OwRen.dead | exact BJ | exact OwRen.obj | exact BU | exact BK rfl);exact rfl))),(by repeat (first | exact AppR.nil | (apply AppR.cons;(first | exact OwRen.dead | exact BJ | exact OwRen.obj | exact BU | exact BK rfl);exact rfl))),?_⟩
      refine Wq (By (ao rfl) (Ad rfl) (Ad rfl) rfl rfl rfl rfl rfl) ?_;(refine Ap ?_);refine Wa ?_;apply AWl.nil;apply OnlyN.mk';refine Yn<|AWp.region<|Wm<|Wm ?_
      refine Fh [0] [] (RA n k (EJ S k) b0 n b c (AL M k) hlt hn hG hSk hz) (by first | exact Or.inl rfl | exact Or.inr ⟨by decide,rfl,by repeat (first | exact AvoidR.nil | refine FX rfl ?_ | refine AvoidR.dead ?_ | refine GZ ?_ | refine AvoidR.obj ?_ | refine FV ?_ | refine FW rfl ?_ | refine AvoidR.pin rfl ?_)⟩) rfl rfl (by first | exact .inl ⟨rfl,rfl⟩ | exact .inr ⟨rfl,rfl⟩) (by repeat (first | exact ArgsC.nil | refine ArgsC.d rfl (D.le.refl _) ?_ | refine Ep rfl rfl ?_)) (by decide) (by repeat (first | exact SelR.nil | refine SelR.var rfl ?_ | refine SelR.obj rfl ?_ | refine Jq rfl ?_ | refine Ih rfl rfl rfl ?_)) (by repeat (first | exact trivial | refine ⟨⟨_,_,rfl⟩,?_⟩)) rfl ?_
      rintro _ _ ⟨rfl,g2,rfl⟩
      refine ⟨_,_,_,(by first | exact AVRen.d | exact AVRen.own rfl | exact AVRen.ptr rfl | exact Eq rfl),(by repeat (first | exact SetR.nil | (apply SetR.cons;(first | exact OwRen.dead | exact BJ | exact OwRen.obj | exact BU | exact BK rfl);exact rfl))),(by repeat (first | exact AppR.nil | (apply AppR.cons;(first | exact OwRen.dead | exact BJ | exact OwRen.obj | exact BU | exact BK rfl);exact rfl))),?_⟩
      apply AWl.nil;apply Ai;apply Ai;refine Yn<|AWp.region ?_;refine Wq AR ?_;refine Wm ?_;apply AWl.nil
      refine ALoop.next (z - (k+1)) (by omega) ⟨k+1,by omega,rfl,rfl⟩ ?_
      exact Aq (by exact Yd<|Yd<|Yd<|FrLe.cons rfl (AVle.own rfl)<|Yd<|Yd<|FrLe.nil) (by refine HpLe.cons (OwLe.obj (by rw [e1])) ?_;(refine HpLe.cons (Cp (by rw [e2,List.map_append];rfl)) ?_);exact HpLe.nil)
    ·obtain rfl : z = k := by omega
     rcases hend with ⟨rfl,rfl⟩ | ⟨hz1,rfl,hneg | ⟨hneg,w,hw,hrow,hbad⟩⟩
     ·apply Y1;refine Wq Ak ?_;refine Y0<|Ac ?_;refine Cf ?_;apply AZ;apply AE;apply AM;apply AF;refine Yn<|Y1<|Wm<|Wa<|Wa<|Y0 ?_;apply As
      exact Bd (Co (ResV.tmp rfl rfl) (ResV.tmp rfl rfl) (BW (D.le.refl _) (D.le.refl _)))
     ·have hs:(AL M z z z).num.sign = -1:=Wv hneg
      apply Y1;refine Wq Am ?_;refine Y0<|Ac ?_;refine Ct ?_;refine Ys<|Ac<|AWp.block<|Y1<|Wm<|Wa<|Y0<|Y1<|Wm<|Wm ?_;refine Wq (BI (k:=z) (ao rfl) (ao rfl) (Ad rfl) (Ad rfl) hz1) ?_;refine Wq (Em 0 0 (ao rfl) rfl CU (Ad rfl) rfl (CO hz1 (Nat.le_refl n))) ?_;refine Wm ?_;refine Wq (BI (k:=z) (ao rfl) (ao rfl) (Ad rfl) (Ad rfl) hz1) ?_;refine Wq (DQ 0 (z+1) (e:=⟨b z,54,Bh (AL M z z) n⟩) (ao rfl) rfl (Dg hz1) (Ad rfl) rfl (BE hz1)) ?_;refine Al ?_;refine Sf ?_;refine Y0<|Y1 ?_;refine Wq Ar ?_;refine Wq (Ag (BR (AL M z z z))) ?_;refine Y0<|AWp.block<|Y1 ?_;refine Wq Am ?_;refine Wa<|Y0 ?_;refine Ct ?_;refine Y1<|Wa<|Wa<|Y0 ?_;apply As;apply Bf;apply Bf;apply AJ;apply CK;apply Bf;apply AJ
      exact Bd (Co (ResV.tmp rfl rfl) (ResV.tmp rfl rfl) (BW (Eo) (D.le.refl _)))
     ·have hs : (AL M z z z).num.sign = 0 := by rw [hneg]; rfl
      apply Y1;refine Wq Am ?_;refine Y0<|Ac ?_;refine Ct ?_;refine Ys<|Ac<|AWp.block<|Y1<|Wm<|Wa<|Y0<|Y1<|Wm<|Wm ?_;refine Wq (BI (k:=z) (ao rfl) (ao rfl) (Ad rfl) (Ad rfl) hz1) ?_;refine Wq (Em 0 0 (ao rfl) rfl CU (Ad rfl) rfl (CO hz1 (Nat.le_refl n))) ?_;refine Wm ?_;refine Wq (BI (k:=z) (ao rfl) (ao rfl) (Ad rfl) (Ad rfl) hz1) ?_;refine Wq (DQ 0 (z+1) (e:=⟨b z,54,Bh (AL M z z) n⟩) (ao rfl) rfl (Dg hz1) (Ad rfl) rfl (BE hz1)) ?_;refine Al ?_;refine Sf ?_;refine Y0<|Y1 ?_;refine Wq Ar ?_;refine Wq (Ag (BR (AL M z z z))) ?_;refine Y0<|AWp.block<|Y1 ?_;refine Wq Ak ?_;refine Wa<|Y0 ?_;refine Cf ?_;apply Y1;refine Wq Am ?_;refine Wa<|Y0 ?_;refine Ct ?_;refine Y1<|Wm<|Wm ?_;refine Wq (BI (k:=z) (ao rfl) (ao rfl) (Ad rfl) (Ad rfl) hz1) ?_;refine Wq (Em 0 0 (ao rfl) rfl CU (Ad rfl) rfl (CO hz1 (Nat.le_refl n))) ?_;refine Wq (Jt (ao rfl) (Ad rfl)) ?_;refine Wm<|Y0<|AWp.block ?_
      refine Ba (fun mz σ=>∃ i,i≤w∧mz = w - i∧σ = ⟨[(0,.d (Jz ms)),(6,.d (ex (.int .i64 (n:Nat)))),(7,.d (sX b0 n n)),(10,.own 1),(57,.d (ex (.int .i64 (n:Nat)))),(58,.d (ex (.int .i64 (z:Nat)))),(90,.d (sX (b z) n (c z))),(91,.d (ex (.int .i64 (n:Nat)))),(92,.d (ex (.int .i64 (i:Nat))))],[.obj (Bo (DM b0 n n b c (AL M z))),.row 56 5 ((DA ms M n z).map sqC)]⟩) ?lei ⟨0,by omega,rfl,rfl⟩ ?roundi
      case lei=>exact Aq (by exact Yd<|Yd<|Yd<|FrLe.cons rfl (AVle.own rfl)<|Yd<|Yd<|Yd<|Yd<|Yd<|FrLe.nil) (by exact HpLe.cons (OwLe.obj rfl)<|Yr<|HpLe.nil)
      case roundi =>
       rintro mz _ ⟨i,hi,rfl,rfl⟩
       by_cases hlti:i<w
       ·have hin : i < n := by omega
        have hs2:(AL M z z i).num.sign = 0:=by rw [hrow i hlti];rfl
        apply Y1;refine Wq Am ?_;refine Y0<|Ac ?_;refine Ct ?_;refine Ys<|Ac<|AWp.block<|Y1 ?_;refine Wq (BI (k:=i) (ao rfl) (ao rfl) (Ad rfl) (Ad rfl) hin) ?_;refine Wq (DQ 0 (z+1) (e:=⟨b z,54,Bh (AL M z z) n⟩) (ao rfl) rfl (Dg hz1) (Ad rfl) rfl (BE hin)) ?_;refine Al ?_;refine Sf ?_;refine Y0<|Y1 ?_;refine Wq Ar ?_;refine Wq (Ag (BR (AL M z z i))) ?_;refine Wq Ak ?_;apply Y0;refine Cf ?_;apply BA;apply Ai;refine Yn<|AWp.region ?_;refine Wq AR ?_;refine Wm ?_;apply AWl.nil
        refine ALoop.next (w - (i+1)) (by omega) ⟨i+1,by omega,rfl,rfl⟩ ?_
        exact Aq (by exact Yd<|Yd<|Yd<|FrLe.cons rfl (AVle.own rfl)<|Yd<|Yd<|Yd<|Yd<|Yd<|FrLe.nil) (by exact HpLe.cons (OwLe.obj rfl)<|Yr<|HpLe.nil)
       ·obtain rfl : w = i := by omega
        have hs2:(AL M z z w).num.sign ≠ 0:=fun e=>hbad (CT.1 e)
        apply Y1;refine Wq Am ?_;refine Y0<|Ac ?_;refine Ct ?_;refine Ys<|Ac<|AWp.block<|Y1 ?_;refine Wq (BI (k:=w) (ao rfl) (ao rfl) (Ad rfl) (Ad rfl) hw) ?_;refine Wq (DQ 0 (z+1) (e:=⟨b z,54,Bh (AL M z z) n⟩) (ao rfl) rfl (Dg hz1) (Ad rfl) rfl (BE hw)) ?_;refine Al ?_;refine Sf ?_;refine Y0<|Y1 ?_;refine Wq Ar ?_;refine Wq (Ag (BR (AL M z z w))) ?_;refine Wq Am ?_;apply Y0;refine Ct ?_;refine Y1<|Wa<|Wa<|Y0 ?_;apply As;apply Bf;apply AJ;apply CK;apply Bf;apply Bf;apply Bf;apply AJ;apply CK;apply Bf;apply AJ
        exact Bd (Co (ResV.tmp rfl rfl) (ResV.tmp rfl rfl) (BW (Eo) (D.le.refl _)))
theorem Tq (n S:Nat) (e:Int) (ms:List (Nat→Int)) (M:Nat→Nat→Rat) (hn0:0<n) (hn:n≤100) (hl:ms.length = n) (hm:∀ m∈ms,In8 m 0 e) (he:e≤65535) (hM:∀ i j,RSz (M i j) S) (hS:EJ S n≤10000000) (hsy:∀ i,i<n→∀ j,j<i→M i j = M j i) (hok:∀ k,k<n→Fw M n k):Abs Tryz.prog 17 [Jz ms,Ee n n M] (Da [Io (DA ms M n n),ex (.int .i64 0)]) :=
 HF n S e ms M hn0 hn hl hm he hM hS hsy n (Nat.le_refl n) hok _ (.inl ⟨rfl,rfl⟩)
theorem Xo (n S:Nat) (e:Int) (ms:List (Nat→Int)) (M:Nat→Nat→Rat) (hn0:0<n) (hn:n≤100) (hl:ms.length = n) (hm:∀ m∈ms,In8 m 0 e) (he:e≤65535) (hM:∀ i j,RSz (M i j) S) (hS:EJ S n≤10000000) (hsy:∀ i,i<n→∀ j,j<i→M i j = M j i) (z:Nat) (hz1:z<n) (hok:∀ k,k<z→Fw M n k) (hneg:AL M z z z<0):Abs Tryz.prog 17 [Jz ms,Ee n n M] (Da [Io [],ex (.int .i64 280)]) :=
 HF n S e ms M hn0 hn hl hm he hM hS hsy z (Nat.le_of_lt hz1) hok _ (.inr ⟨hz1,rfl,.inl hneg⟩)
theorem UM (n S:Nat) (e:Int) (ms:List (Nat→Int)) (M:Nat→Nat→Rat) (hn0:0<n) (hn:n≤100) (hl:ms.length = n) (hm:∀ m∈ms,In8 m 0 e) (he:e≤65535) (hM:∀ i j,RSz (M i j) S) (hS:EJ S n≤10000000) (hsy:∀ i,i<n→∀ j,j<i→M i j = M j i) (z:Nat) (hz1:z<n) (hok:∀ k,k<z→Fw M n k) (hneg:AL M z z z = 0) (w:Nat) (hw:w<n) (hrow:∀ j,j<w→AL M z z j = 0) (hbad:AL M z z w ≠ 0):Abs Tryz.prog 17 [Jz ms,Ee n n M] (Da [Io [],ex (.int .i64 280)]) :=
 HF n S e ms M hn0 hn hl hm he hM hS hsy z (Nat.le_of_lt hz1) hok _ (.inr ⟨hz1,rfl,.inr ⟨hneg,w,hw,hrow,hbad⟩⟩)
theorem UN (c n S:Nat) (hn0:0<n) (hc:c ≠ n) (hc1:c≤100) (hn:n≤100) (e:Int) (ms:List (Nat→Int)) (M:Nat→Nat→Rat) (hl:ms.length = n) (hM:∀ i j,RSz (M i j) S) (hS:S≤10000000) :
  Abs Tryz.prog 17 [Jz ms,Ee n c M] (Da [Io [],ex (.int .i64 1)]):=by
 refine Ab Tryz.func17 fun s0=>?_
 rw [Tryz.ntmps17]
 refine Y1<|Wa<|Wa<|Y0<|Y1<|Wm ?_;refine Wq (Pg rfl hl (Ad rfl)) ?_;refine Wa<|Y0<|Ac<|Y1<|Wm ?_;refine Wq (Ag (IE n c M S hM (by omega) (by omega) (by omega))) ?_;refine Wq Br ?_;refine Wm ?_;refine Wg Af ?_;refine Wg (DJ rfl (Ad rfl)) ?_;refine Wg Af ?_;refine Wg Ak ?_;refine Wq AD ?_;refine Wm ?_;refine Wg Af ?_;refine Wg Am ?_;refine Wg Af ?_;refine Wg Af ?_;refine Wg (BD (k:=0) rfl (ao rfl) (Ad rfl) (Ad rfl) rfl hn0) ?_;refine Wg BS ?_;refine Wg (DJ rfl (Ad rfl)) ?_;refine Wg Af ?_;refine Wg Am ?_;refine Wg AP ?_;refine Wq AD ?_;apply Y0;refine Ct ?_;refine Y1<|Wa<|Wa<|Y0 ?_;apply As;apply AJ
 exact Bd (Co (ResV.tmp rfl rfl) (ResV.tmp rfl rfl) (BW (Eo) (D.le.refl _)))
theorem Xm (n S:Nat) (hn0:0<n) (hn:n≤100) (e:Int) (ms:List (Nat→Int)) (M:Nat→Nat→Rat) (hl:ms.length = n) (hM:∀ i j,RSz (M i j) S) (hS:S≤10000000) (z w:Nat) (hz:z<n) (hw:w<z) (h:∀ i,i<z→∀ j,j<i→M i j = M j i) (h':∀ j,j<w→M z j = M j z) (hbad:M z w ≠ M w z) :
  Abs Tryz.prog 17 [Jz ms,Ee n n M] (Da [Io [],ex (.int .i64 112)]):=by
 refine Ab Tryz.func17 fun s0=>?_
 rw [Tryz.ntmps17]
 refine Y1<|Wa<|Wa<|Y0<|Y1<|Wm ?_;refine Wq (Pg rfl hl (Ad rfl)) ?_;refine Wa<|Y0<|Ac<|Y1<|Wm ?_;refine Wq (Ag (IE n n M S hM (by omega) (by omega) (by omega))) ?_;refine Wq Br ?_;refine Wm ?_;refine Wg Af ?_;refine Wg (DJ rfl (Ad rfl)) ?_;refine Wg Af ?_;refine Wg Ak ?_;refine Wq AD ?_;refine Wm ?_;refine Wg Af ?_;refine Wg Am ?_;refine Wg Af ?_;refine Wg Af ?_;refine Wg (BD (k:=0) rfl (ao rfl) (Ad rfl) (Ad rfl) rfl hn0) ?_;refine Wg BS ?_;refine Wg (DJ rfl (Ad rfl)) ?_;refine Wg Af ?_;refine Wg Ak ?_;refine Wg AP ?_;refine Wq AD ?_;apply Y0;refine Cf ?_;refine Ys<|Ac<|Y1<|Wm ?_;refine Wq (Ag (Wj n M S hM (by omega) (by omega) z w hz hw h h' hbad)) ?_;refine Wq Br ?_;apply Y0;refine Ct ?_;refine Y1<|Wa<|Wa<|Y0 ?_;apply As;apply AJ
 exact Bd (Co (ResV.tmp rfl rfl) (ResV.tmp rfl rfl) (BW (Eo) (D.le.refl _)))
def m2 (a b c d:Int) (i j:Nat):Rat:=if i = 0 then if j = 0 then (a:Rat) else (b:Rat) else if j = 0 then (c:Rat) else (d:Rat)
theorem Fv (a b c d:Int) (ha:-1000≤a∧a≤1000) (hb:-1000≤b∧b≤1000) (hc:-1000≤c∧c≤1000) (hd:-1000≤d∧d≤1000):Abs Tryz.prog 39 [ex (.int .i64 a),ex (.int .i64 b),ex (.int .i64 c),ex (.int .i64 d)] (Ee 2 2 (m2 a b c d)):=by
 refine Ab Tryz.func39 fun s0=>?_
 rw [Tryz.ntmps39]
 refine Y1<|Wa<|Y0<|Y1<|Wm ?_;refine Wq (Ag (Bu a (by omega) (by omega))) ?_;refine Wm ?_;refine Wq (Ag (Bu b (by omega) (by omega))) ?_;(refine Cz rfl rfl ?_;(refine CE (Ad rfl) (Ad rfl) rfl rfl rfl rfl rfl ?_;(repeat ((first | refine ⟨_,AK (ao rfl),?_⟩ | refine ⟨_,Po rfl,?_⟩);refine ⟨_,rfl,?_⟩));refine ⟨_,rfl,?_⟩));refine Wm ?_;refine Wq (Ag (Bu c (by omega) (by omega))) ?_;refine Wm ?_;refine Wq (Ag (Bu d (by omega) (by omega))) ?_;(refine Cz rfl rfl ?_;(refine CE (Ad rfl) (Ad rfl) rfl rfl rfl rfl rfl ?_;(repeat ((first | refine ⟨_,AK (ao rfl),?_⟩ | refine ⟨_,Po rfl,?_⟩);refine ⟨_,rfl,?_⟩));refine ⟨_,rfl,?_⟩));(refine Cz rfl rfl ?_;(refine CE (Ad rfl) (Ad rfl) rfl rfl rfl rfl rfl ?_;(repeat ((first | refine ⟨_,AK (ao rfl),?_⟩ | refine ⟨_,Po rfl,?_⟩);refine ⟨_,rfl,?_⟩));refine ⟨_,rfl,?_⟩));refine Wa<|Y0 ?_;apply As
 exact Bd (Rets.of1 (ResV.tmp rfl rfl) (Bc rfl))
theorem Ns {a b c d:Int} (ha:-1000≤a∧a≤1000) (hb:-1000≤b∧b≤1000) (hc:-1000≤c∧c≤1000) (hd:-1000≤d∧d≤1000) (i j:Nat):RSz (m2 a b c d i j) 1:=by
 unfold m2
 split <;> split <;> exact DO (by omega) (by omega)
theorem Wx (c : Rat) (P:List Tm):Sim (Er c P) (scl c P):=by
 unfold Er
 split
 ·rename_i h
  intro f _
  rw [Tv,h,Rat.zero_mul]
  rfl
 ·unfold MS scl
  rw [List.map_congr_left fun t _=>by rw [HW]]
  exact Sim.refl _
abbrev Fr : List Tm:=CW [⟨1,Gi 0⟩] (Dl (1:Int))
abbrev No : List (Nat→Int):=[Gi 0,fun _=>0]
theorem Ou : ∀ m∈No,In8 m 0 1:=fun m hm=>by
 rcases List.mem_cons.1 hm with rfl | hm
 ·exact Ho
 ·rw [List.mem_singleton.1 hm]
  exact fun i _=>⟨Int.le_refl _,Int.zero_le_ofNat 1⟩
theorem FS {f : (Nat→Int)→Rat} (hf:IR f) (P Q:List Tm):Dm f (CW P Q) = Dm f P+Dm f Q:=(GI P Q f hf).trans (Dk f P Q)
theorem HL {f : (Nat→Int)→Rat} (hf:IR f) (c:Rat) (P:List Tm):Dm f (Er c P) = c*Dm f P:=(Wx c P f hf).trans (Tv f c P)
theorem Md : Dl ((-1:Int):Rat) = [⟨-1,fun _=>0⟩]:=by
 rw [Dl,if_neg (by decide +kernel)]
 rfl
theorem A1g : DA No (m2 1 1 1 2) 2 2 = [⟨1,Fr⟩,⟨1,Dl (1:Int)⟩]:=by
 have e0:AL (m2 1 1 1 2) 0 0 0 = 1:=by decide +kernel
 have e1:AL (m2 1 1 1 2) 0 0 1 = 1:=by decide +kernel
 have e2:AL (m2 1 1 1 2) 1 1 1 = 1:=by decide +kernel
 have e3:AL (m2 1 1 1 2) 1 1 0 = 0:=by decide +kernel
 have z:¬ (1:Rat) = 0:=by decide +kernel
 have d:(1:Rat) / 1 = 1:=by decide +kernel
 have s1:KB No (AL (m2 1 1 1 2) 0 0) 1 2 = Fr:=by
  show (if AL (m2 1 1 1 2) 0 0 1 = 0 then _ else CW (if AL (m2 1 1 1 2) 0 0 0 = 0 then _ else CW [] [⟨AL (m2 1 1 1 2) 0 0 0 / 1,Gi 0⟩]) [⟨AL (m2 1 1 1 2) 0 0 1 / 1,fun _=>0⟩]) = _
  rw [e0,e1,if_neg z,if_neg z,d,EY,Fr,Fz]
 have s2:KB No (AL (m2 1 1 1 2) 1 1) 1 2 = Dl (1:Int):=by
  show (if AL (m2 1 1 1 2) 1 1 1 = 0 then _ else CW (if AL (m2 1 1 1 2) 1 1 0 = 0 then [] else _) [⟨AL (m2 1 1 1 2) 1 1 1 / 1,fun _=>0⟩]) = _
  rw [e2,e3,if_neg z,if_pos rfl,d,EY,Fz]
 show (if AL (m2 1 1 1 2) 1 1 1 = 0 then _ else (if AL (m2 1 1 1 2) 0 0 0 = 0 then _ else ([]:List Sq) ++ [(⟨AL (m2 1 1 1 2) 0 0 0,KB No (AL (m2 1 1 1 2) 0 0) (AL (m2 1 1 1 2) 0 0 0) 2⟩:Sq)]) ++ [(⟨AL (m2 1 1 1 2) 1 1 1,KB No (AL (m2 1 1 1 2) 1 1) (AL (m2 1 1 1 2) 1 1 1) 2⟩:Sq)]) = _
 rw [e0,e2,if_neg z,if_neg z,s1,s2]
 rfl
theorem A1f : DA No (m2 0 0 0 3) 2 2 = [⟨(3:Int),Dl (1:Int)⟩]:=by
 have e0:AL (m2 0 0 0 3) 0 0 0 = 0:=by decide +kernel
 have e2:AL (m2 0 0 0 3) 1 1 1 = (3:Int):=by decide +kernel
 have e3:AL (m2 0 0 0 3) 1 1 0 = 0:=by decide +kernel
 have z:¬ ((3:Int):Rat) = 0:=by decide +kernel
 have d:((3:Int):Rat) / ((3:Int):Rat) = 1:=by decide +kernel
 have s2:KB No (AL (m2 0 0 0 3) 1 1) (3:Int) 2 = Dl (1:Int):=by
  show (if AL (m2 0 0 0 3) 1 1 1 = 0 then _ else CW (if AL (m2 0 0 0 3) 1 1 0 = 0 then [] else _) [⟨AL (m2 0 0 0 3) 1 1 1 / (3:Int),fun _=>0⟩]) = _
  rw [e2,e3,if_neg z,if_pos rfl,d,EY,Fz]
 show (if AL (m2 0 0 0 3) 1 1 1 = 0 then _ else (if AL (m2 0 0 0 3) 0 0 0 = 0 then [] else _) ++ [(⟨AL (m2 0 0 0 3) 1 1 1,KB No (AL (m2 0 0 0 3) 1 1) (AL (m2 0 0 0 3) 1 1 1) 2⟩:Sq)]) = _
 rw [e0,e2,if_neg z,if_pos rfl,s2]
 rfl
theorem KY {p : Nat→Prop} (h0:p 0) (h1:p 1):∀ k,k<2→p k:=fun k hk=>by
 match k,hk with
 | 0,_=>exact h0
 | 1,_=>exact h1
theorem A1z : ∀ k,k<2→Fw (m2 1 1 1 2) 2 k:=KY ⟨by decide +kernel,fun h=>absurd h (by decide +kernel)⟩ ⟨by decide +kernel,fun h=>absurd h (by decide +kernel)⟩
theorem A1y : ∀ k,k<2→Fw (m2 0 0 0 3) 2 k:=KY ⟨by decide +kernel,fun _=>KY (by decide +kernel) (by decide +kernel)⟩ ⟨by decide +kernel,fun h=>absurd h (by decide +kernel)⟩
theorem sy2 {a b d:Int}:∀ i,i<2→∀ j,j<i→m2 a b b d i j = m2 a b b d j i:=KY (fun j h=>absurd h (Nat.not_lt_zero j)) fun j h=>by
 obtain rfl:j = 0:=by omega
 rfl
theorem UT : Abs Tryz.prog 17 [Jz No,Ee 2 2 (m2 1 1 1 2)] (Da [Io [⟨1,Fr⟩,⟨1,Dl (1:Int)⟩],ex (.int .i64 0)]):=by
 have:=Tq 2 1 1 No (m2 1 1 1 2) (by omega) (by omega) rfl Ou (by omega) (Ns (by omega) (by omega) (by omega) (by omega)) (by decide) sy2 A1z
 rwa [A1g] at this
theorem US : Abs Tryz.prog 17 [Jz No,Ee 2 2 (m2 0 0 0 3)] (Da [Io [⟨(3:Int),Dl (1:Int)⟩],ex (.int .i64 0)]):=by
 have:=Tq 2 1 1 No (m2 0 0 0 3) (by omega) (by omega) rfl Ou (by omega) (Ns (by omega) (by omega) (by omega) (by omega)) (by decide) sy2 A1y
 rwa [A1f] at this
theorem UR : Abs Tryz.prog 17 [Jz No,Ee 2 2 (m2 0 1 1 2)] (Da [Io [],ex (.int .i64 280)]) :=
 UM 2 1 1 No (m2 0 1 1 2) (by omega) (by omega) rfl Ou (by omega) (Ns (by omega) (by omega) (by omega) (by omega)) (by decide) sy2 0 (by omega) (fun k h=>absurd h (Nat.not_lt_zero k)) (by decide +kernel) 1 (by omega) (fun j h=>by obtain rfl:j = 0:=(by omega);decide +kernel) (by decide +kernel)
theorem UQ : Abs Tryz.prog 17 [Jz No,Ee 2 2 (m2 1 2 2 1)] (Da [Io [],ex (.int .i64 280)]) :=
 Xo 2 1 1 No (m2 1 2 2 1) (by omega) (by omega) rfl Ou (by omega) (Ns (by omega) (by omega) (by omega) (by omega)) (by decide) sy2 1 (by omega) (fun k h=>by obtain rfl:k = 0:=(by omega);exact ⟨by decide +kernel,fun h=>absurd h (by decide +kernel)⟩) (by decide +kernel)
theorem UP : Abs Tryz.prog 17 [Jz No,Ee 2 2 (m2 1 2 3 4)] (Da [Io [],ex (.int .i64 112)]) :=
 Xm 2 1 (by omega) (by omega) 1 No (m2 1 2 3 4) rfl (Ns (by omega) (by omega) (by omega) (by omega)) (by decide) 1 0 (by omega) (by omega) (fun i hi j hj=>by omega) (fun j hj=>absurd hj (Nat.not_lt_zero j)) (by decide +kernel)
theorem UO : Abs Tryz.prog 17 [Jz [Gi 0],Ee 1 2 (m2 1 0 0 0)] (Da [Io [],ex (.int .i64 1)]) :=
 UN 2 1 1 (by omega) (by omega) (by omega) (by omega) 1 [Gi 0] (m2 1 0 0 0) rfl (Ns (by omega) (by omega) (by omega) (by omega)) (by decide)
def CF : Nat→(Nat→Rat)→Rat
 | 0,_=>0
 | n+1,f=>CF n f+f n
theorem Dw {f g:Nat→Rat}:∀ {n:Nat},(∀ k,k<n→f k = g k)→CF n f = CF n g
 | 0,_=>rfl
 | n+1,h=>by rw [CF,CF,Dw fun k hk=>h k (by omega),h n (by omega)]
theorem Hr (f g:Nat→Rat):∀ n,CF n (fun k=>f k+g k) = CF n f+CF n g
 | 0=>by simp [CF,Rat.zero_add]
 | n+1=>by rw [CF,CF,CF,Hr f g n];grind
theorem Gk (c : Rat) (f:Nat→Rat):∀ n,CF n (fun k=>c*f k) = c*CF n f
 | 0=>by rw [CF,CF,Rat.mul_zero]
 | n+1=>by rw [CF,CF,Gk c f n];grind
theorem Gj {f : Nat→Rat} {n:Nat} (h:∀ k,k<n→f k = 0):CF n f = 0:=by
 have:=Dw (f:=f) (g:=fun _=>0*0) (n:=n) fun k hk=>by rw [h k hk,Rat.zero_mul]
 rw [this,Gk,Rat.zero_mul]
theorem SU {f : Nat→Rat}:∀ {n:Nat},(∀ k,k<n→0≤f k)→0≤CF n f∧(CF n f = 0→∀ k,k<n→f k = 0)
 | 0,_=>⟨Rat.le_refl,fun _ k hk=>absurd hk (Nat.not_lt_zero k)⟩
 | n+1,h=>by
  obtain ⟨h1,h2⟩:=SU (n:=n) fun k hk=>h k (by omega)
  have h3:=h n (by omega)
  rw [CF]
  refine ⟨by grind,fun e k hk=>?_⟩
  by_cases hkn:k = n
  ·subst hkn
   grind
  ·exact h2 (by grind) k (by omega)
theorem A19 (a : Rat):0≤a*a:=by
 rcases (Rat.le_total:0≤a∨a≤0) with h | h
 ·exact Rat.mul_nonneg h h
 ·have h1 : 0 ≤ -a := by grind
  have:=Rat.mul_nonneg h1 h1
  grind
theorem WY {a b:Rat} (h:a*b = 0):a = 0∨b = 0:=by
 by_cases ha:a = 0
 ·exact .inl ha
 ·exact .inr (by
   have:a⁻¹*(a*b) = b:=by rw [← Rat.mul_assoc,Rat.inv_mul_cancel _ ha,Rat.one_mul]
   rw [← this,h,Rat.mul_zero])
def Bj (a : Nat→Rat) (r:Nat→Nat→Rat) (K i j:Nat):Rat:=CF K fun k=>a k*(r k i*r k j)
theorem GF (a : Nat→Rat) (r:Nat→Nat→Rat) (K i j:Nat):Bj a r K i j = Bj a r K j i:=Dw fun k _=>by grind
theorem Lt {a : Nat→Rat} {r:Nat→Nat→Rat} {K p:Nat} (ha:∀ k,k<K→0≤a k):0≤Bj a r K p p∧(Bj a r K p p = 0→∀ j,Bj a r K p j = 0):=by
 have h:=SU (f:=fun k=>a k*(r k p*r k p)) (n:=K) fun k hk=>Rat.mul_nonneg (ha k hk) (A19 _)
 refine ⟨h.1,fun e j=>Gj fun k hk=>?_⟩
 rcases WY (h.2 e k hk) with h1 | h1
 ·rw [h1,Rat.zero_mul]
 ·have:r k p = 0:=(WY h1).elim id id
  rw [this,Rat.zero_mul,Rat.mul_zero]
theorem Ue {a : Nat→Rat} {r:Nat→Nat→Rat} {K p:Nat} (h0:Bj a r K p p ≠ 0):Ht (Bj a r K) p = Bj a (fun k i=>r k i - Bj a r K p i / Bj a r K p p*r k p) K:=by
 funext i j
 have key:∀ (c d:Rat) (K:Nat),CF K (fun k=>a k*((r k i - c*r k p)*(r k j - d*r k p))) = CF K (fun k=>a k*(r k i*r k j)) - d*CF K (fun k=>a k*(r k i*r k p)) - c*CF K (fun k=>a k*(r k p*r k j))+c*d*CF K (fun k=>a k*(r k p*r k p)):=by
  intro c d K
  induction K with
  | zero=>simp only [CF];grind
  | succ K ih=>simp only [CF];rw [ih];grind
 have hk:Bj a (fun k i=>r k i - Bj a r K p i / Bj a r K p p*r k p) K i j = Bj a r K i j - Bj a r K p j / Bj a r K p p*Bj a r K i p - Bj a r K p i / Bj a r K p p*Bj a r K p j+Bj a r K p i / Bj a r K p p*(Bj a r K p j / Bj a r K p p)*Bj a r K p p:=key (Bj a r K p i / Bj a r K p p) (Bj a r K p j / Bj a r K p p) K
 rw [hk,GF a r K i p,Ht]
 have hd:Bj a r K p j / Bj a r K p p*Bj a r K p p = Bj a r K p j:=by rw [Rat.div_def,Rat.mul_assoc,Rat.inv_mul_cancel _ h0,Rat.mul_one]
 have hd':Bj a r K p i / Bj a r K p p*Bj a r K p p = Bj a r K p i:=by rw [Rat.div_def,Rat.mul_assoc,Rat.inv_mul_cancel _ h0,Rat.mul_one]
 generalize Bj a r K p j / Bj a r K p p = y at hd ⊢
 generalize Bj a r K p i / Bj a r K p p = x at hd' ⊢
 rw [← hd,← hd']
 generalize Bj a r K p p = q
 generalize Bj a r K i j = w
 grind
theorem II {a : Nat→Rat} {r:Nat→Nat→Rat} {K:Nat}:∀ k,∃ r',AL (Bj a r K) k = Bj a r' K
 | 0=>⟨r,rfl⟩
 | k+1=>by
  obtain ⟨r',h⟩:=II (a:=a) (r:=r) (K:=K) k
  rw [AL,h]
  split
  ·exact ⟨r',rfl⟩
  ·rename_i h0
   exact ⟨_,Ue h0⟩
theorem Oh {a : Nat→Rat} {r:Nat→Nat→Rat} {K:Nat} (ha:∀ k,k<K→0≤a k) (n k:Nat):Fw (Bj a r K) n k:=by
 obtain ⟨r',h⟩:=II (a:=a) (r:=r) (K:=K) k
 unfold Fw
 rw [h]
 obtain ⟨h1,h2⟩:=Lt (r:=r') (p:=k) ha
 exact ⟨h1,fun e j _=>h2 e j⟩
theorem Nv {a : Nat→Rat} {r:Nat→Nat→Rat} {K:Nat} (ha:∀ k,k<K→0≤a k):∀ k i,i<k→∀ j,AL (Bj a r K) k i j = 0
 | 0,i,h,_=>absurd h (Nat.not_lt_zero i)
 | k+1,i,h,j=>by
  obtain ⟨r',hr⟩:=II (a:=a) (r:=r) (K:=K) k
  have ih:=Nv (r:=r) ha k
  rw [AL]
  rw [hr] at ih ⊢
  obtain ⟨h1,h2⟩:=Lt (r:=r') (p:=k) ha
  by_cases e:i = k
  ·subst e
   split
   ·rename_i h0
    exact h2 h0 j
   ·rename_i h0
    rw [Ht]
    have:Bj a r' K i i / Bj a r' K i i = 1:=by rw [Rat.div_def,Rat.mul_inv_cancel _ h0]
    rw [this]
    grind
  ·have h3 := ih i (by omega)
   split
   ·exact h3 j
   ·rw [Ht,h3 j,GF a r' K k i,h3 k,Rat.div_def,Rat.zero_mul,Rat.zero_mul]
    grind
def Kl (F : Nat→Nat→Rat) (M:Nat→Nat→Rat) (n:Nat):Rat:=CF n fun i=>CF n fun j=>M i j*F i j
theorem Xp (F : Nat→Nat→Rat) {M:Nat→Nat→Rat} {p n:Nat} (h0:M p p ≠ 0):Kl F M n = M p p*CF n (fun i=>M p i / M p p*CF n fun j=>M p j / M p p*F i j)+Kl F (Ht M p) n:=by
 unfold Kl
 rw [← Gk,← Hr]
 refine Dw fun i _=>?_
 rw [← Rat.mul_assoc,← Gk,← Hr]
 refine Dw fun j _=>?_
 rw [Ht]
 have hd:M p j / M p p*M p p = M p j:=by rw [Rat.div_def,Rat.mul_assoc,Rat.inv_mul_cancel _ h0,Rat.mul_one]
 generalize M p j / M p p = y at hd ⊢
 rw [← hd]
 grind
theorem WG {f : (Nat→Int)→Rat} (hf:IR f) (a:Nat→Int):IR fun b=>f (AU a b):=fun b b' h=>hf _ _ fun i hi=>by
 simp only [AU]
 rw [h i hi]
theorem WF {f : (Nat→Int)→Rat} (hf:IR f) (Q:List Tm):IR fun a=>Dm (fun b=>f (AU a b)) Q:=fun a a' h=>JW fun t _=>hf _ _ fun i hi=>by
 simp only [AU]
 rw [h i hi]
def MH (ms : List (Nat→Int)) (i:Nat):Nat→Int:=ms.getD i default
theorem Tt {f : (Nat→Int)→Rat} (hf:IR f) (ms:List (Nat→Int)) (row:Nat→Rat) (d:Rat):∀ n,Dm f (KB ms row d n) = CF n fun j=>row j / d*f (MH ms j)
 | 0=>rfl
 | n+1=>by
  rw [KB,CF,← Tt hf ms row d n]
  split
  ·rename_i h
   rw [h,Rat.div_def,Rat.zero_mul,Rat.zero_mul]
   grind
  ·rw [FS hf]
   show _+(row n / d*f (MH ms n)+0) = _
   grind
theorem Xu {f : (Nat→Int)→Rat} (hf:IR f) {P:List Tm} {ms:List (Nat→Int)} {c:Nat→Rat} {n:Nat} (h:∀ g,IR g→Dm g P = CF n fun j=>c j*g (MH ms j)):Dm f (EP P P) = CF n fun i=>c i*CF n fun j=>c j*f (AU (MH ms i) (MH ms j)):=by
 rw [Lx P P f hf,LW,h _ (WF hf P)]
 exact Dw fun i _=>by rw [h _ (WG hf _)]
theorem TY (L : List Sq) (s:Sq):Fp (L ++ [s]) = KA (Fp L) s:=by simp [Fp]
theorem Qe {f : (Nat→Int)→Rat} (hf:IR f) (ms:List (Nat→Int)) (M:Nat→Nat→Rat) (n:Nat):∀ k,Dm f (Fp (DA ms M n k))+Kl (fun i j=>f (AU (MH ms i) (MH ms j))) (AL M k) n = Kl (fun i j=>f (AU (MH ms i) (MH ms j))) M n
 | 0=>by
  show (0:Rat)+_ = _
  rw [Rat.zero_add]
  rfl
 | k+1=>by
  rw [← Qe hf ms M n k,DA,AL]
  split
  ·rfl
  ·rename_i h0
   rw [TY,KA,FS hf,HL hf,Xu hf (fun g hg=>Tt hg ms (AL M k k) (AL M k k k) n),Xp (M:=AL M k) (p:=k) _ h0]
   grind
theorem Nw (F : Nat→Nat→Rat) (a:Nat→Rat) (r:Nat→Nat→Rat) (n:Nat):∀ K,Kl F (Bj a r K) n = CF K fun k=>a k*CF n fun i=>r k i*CF n fun j=>r k j*F i j
 | 0=>Gj fun i _=>Gj fun j _=>by
  show (0:Rat)*_ = 0
  rw [Rat.zero_mul]
 | K+1=>by
  rw [CF,← Nw F a r n K]
  unfold Kl
  rw [← Gk,← Hr]
  refine Dw fun i _=>?_
  rw [← Rat.mul_assoc,← Gk,← Hr]
  refine Dw fun j _=>?_
  show (Bj a r K i j+a K*(r K i*r K j))*F i j = _
  grind
def Iq (ms : List (Nat→Int)) (r:Nat→Rat):Nat→List Tm
 | 0=>[]
 | i+1=>CW (Iq ms r i) (Er (r i) [⟨(1:Int),MH ms i⟩])
def Hn (ms : List (Nat→Int)) (a:Nat→Rat) (r:Nat→Nat→Rat) (n:Nat):Nat→List Tm
 | 0=>[]
 | k+1=>CW (Hn ms a r n k) (Er (a k) (EP (Iq ms (r k) n) (Iq ms (r k) n)))
theorem Qi {f : (Nat→Int)→Rat} (hf:IR f) (ms:List (Nat→Int)) (r:Nat→Rat):∀ n,Dm f (Iq ms r n) = CF n fun j=>r j*f (MH ms j)
 | 0=>rfl
 | n+1=>by
  rw [Iq,FS hf,HL hf,Qi hf ms r n,CF]
  show _+r n*(((1:Int):Rat)*f (MH ms n)+0) = _
  have:((1:Int):Rat) = 1:=rfl
  rw [this]
  grind
theorem Pu {f : (Nat→Int)→Rat} (hf:IR f) (ms:List (Nat→Int)) (a:Nat→Rat) (r:Nat→Nat→Rat) (n:Nat):∀ K,Dm f (Hn ms a r n K) = CF K fun k=>a k*CF n fun i=>r k i*CF n fun j=>r k j*f (AU (MH ms i) (MH ms j))
 | 0=>rfl
 | K+1=>by
  rw [Hn,FS hf,HL hf,Xu hf (fun g hg=>Qi hg ms (r K) n),Pu hf ms a r n K,CF]
theorem WA (ms : List (Nat→Int)) {a:Nat→Rat} (r:Nat→Nat→Rat) (n K:Nat) (ha:∀ k,k<K→0≤a k):Sim (Fp (DA ms (Bj a r K) n n)) (Hn ms a r n K):=fun f hf=>by
 have h1:=Qe hf ms (Bj a r K) n n
 have h2:Kl (fun i j=>f (AU (MH ms i) (MH ms j))) (AL (Bj a r K) n) n = 0:=Gj fun i hi=>Gj fun j _=>by rw [Nv ha n i hi j,Rat.zero_mul]
 rw [Pu hf,← Nw,← h1,h2]
 grind
def Cy (M : Nat→Nat→Rat) (n i j:Nat):Rat:=if i<n∧j<n then M i j else if i = n∧j = n then ((-1:Int):Rat) else ((0:Int):Rat)
theorem Xz {M : Nat→Nat→Rat} {n p:Nat} (hp:p<n):Ht (Cy M n) p = Cy (Ht M p) n:=by
 have z0:((0:Int):Rat) = 0:=rfl
 have hpp:Cy M n p p = M p p:=if_pos ⟨hp,hp⟩
 have hpi:∀ i,n≤i→Cy M n p i = 0:=fun i hi=>by rw [Cy,if_neg (by omega),if_neg (by omega)];rfl
 have hpi':∀ i,i<n→Cy M n p i = M p i:=fun i hi=>if_pos ⟨hp,hi⟩
 have heq:∀ i j,¬ (i<n∧j<n)→Cy (Ht M p) n i j = Cy M n i j:=fun i j h=>by rw [Cy,Cy,if_neg h,if_neg h]
 funext i j
 rw [Ht,hpp]
 by_cases hi:i<n
 ·by_cases hj:j<n
  ·rw [hpi' i hi,hpi' j hj,Cy,Cy,if_pos ⟨hi,hj⟩,if_pos ⟨hi,hj⟩,Ht]
  ·rw [heq i j fun h => hj h.2, hpi j (by omega), Rat.mul_zero]
   grind
 ·rw [heq i j fun h => hi h.1, hpi i (by omega), Rat.div_def, Rat.zero_mul, Rat.zero_mul]
  grind
theorem JX (M : Nat→Nat→Rat) (n:Nat):∀ k,k≤n→AL (Cy M n) k = Cy (AL M k) n
 | 0,_=>rfl
 | k+1,hk=>by
  rw [AL,AL,JX M n k (by omega)]
  have:Cy (AL M k) n k k = AL M k k k:=if_pos ⟨by omega,by omega⟩
  rw [this]
  split
  ·rfl
  ·exact Xz (by omega)
theorem Zg {M : Nat→Nat→Rat} {n k:Nat} (hk:k<n) (h:Fw M n k):Fw (Cy M n) (n+1) k:=by
 unfold Fw at h ⊢
 rw [JX M n k (by omega)]
 have hkk:Cy (AL M k) n k k = AL M k k k:=if_pos ⟨hk,hk⟩
 rw [hkk]
 refine ⟨h.1,fun e j hj=>?_⟩
 by_cases hjn:j<n
 ·rw [Cy,if_pos ⟨hk,hjn⟩]
  exact h.2 e j hjn
 ·rw [Cy, if_neg (by omega), if_neg (by omega)]
  rfl
theorem XA (M : Nat→Nat→Rat) (n:Nat):AL (Cy M n) n n n<0:=by
 rw [JX M n n (Nat.le_refl n),Cy,if_neg (by omega),if_pos ⟨rfl,rfl⟩]
 decide
theorem Vk {M : Nat→Nat→Rat} (h:∀ i j,M i j = M j i) (n i j:Nat):Cy M n i j = Cy M n j i:=by
 unfold Cy
 rw [h i j]
 by_cases h1:i<n∧j<n
 ·rw [if_pos h1,if_pos ⟨h1.2,h1.1⟩]
 ·have h1':¬ (j<n∧i<n):=fun h=>h1 ⟨h.2,h.1⟩
  rw [if_neg h1,if_neg h1']
  by_cases h2:i = n∧j = n
  ·rw [if_pos h2,if_pos (⟨h2.2,h2.1⟩:j = n∧i = n)]
  ·have h2':¬ (j = n∧i = n):=fun h=>h2 ⟨h.2,h.1⟩
   rw [if_neg h2,if_neg h2']
theorem Ra (x y:Int) (hn:(Ah x.natAbs).length≤4398046511104) (hn':(Ah y.natAbs).length≤4398046511104):Abs Tryz.prog 75 [BF (DF x),BF (DF y)] (BF (DF (x+y))):=by
 refine Be (AG Tryz.func75 (by kernel_rfl) (by kernel_rfl)) fun s vs hok hl hv=>?_
 rw [MD hl]
 obtain ⟨x0,X0,n0,c0,e0,h0⟩:=Cs (hv 0 (by simp))
 obtain ⟨x1,X1,n1,c1,e1,h1⟩:=Cs (hv 1 (by simp))
 rw [e0,e1]
 exact (QI x0 x1 X0 X1 n0 c0 n1 c1 x y _ h0 h1 hn hn').mono fun e w' ⟨y,Y,m,k,he,hI,hE⟩=>⟨_,he,hE,fun s' hw hok' _ _=>by subst hw;exact GN hok' hI⟩
theorem Ez (x y:Int) (hn:(Ah x.natAbs).length≤4398046511103) (hn':(Ah y.natAbs).length≤4398046511103) (hy:y ≠ 0):Abs Tryz.prog 74 [BF (DF x),BF (DF y)] (BF (BH (Rat.divInt x y))):=by
 refine Be (AG Tryz.func74 (by kernel_rfl) (by kernel_rfl)) fun s vs hok hl hv=>?_
 rw [MD hl]
 obtain ⟨x0,X0,n0,c0,e0,h0⟩:=Cs (hv 0 (by simp))
 obtain ⟨x1,X1,n1,c1,e1,h1⟩:=Cs (hv 1 (by simp))
 rw [e0,e1]
 exact (HQ x0 x1 X0 X1 n0 c0 n1 c1 x y _ h0 h1 hn hn' hy).mono fun e w' ⟨y,y',Y,Y',m,k,m',k',he,hI,hE⟩=>⟨_,he,hE,fun s' hw hok' _ _=>by subst hw;exact FP hok' hI⟩
structure Qr where
 n:Int
 d:Int
 k:Int
instance : Inhabited Qr:=⟨⟨0,0,0⟩⟩
def Qr.Ok (x : Qr):Prop:=-128≤x.n∧x.n≤127∧-128≤x.d∧x.d≤127∧0≤x.k∧x.k≤255
def qrC (x : Qr):List D:=[ex (.int .i8 x.n),ex (.int .i8 x.d),ex (.int .u8 x.k)]
def Ck (x : Qr):Int:=4611686018427387904+x.k
def On (x : Qr):Int:=if x.k % 8 = 7 then x.n*Ck x*Ck x+x.k else x.n
def Hh (x : Qr):Int:=if x.d = 0 then 1 else x.d
def Ma (x : Qr):Int:=if x.k % 8 = 6 then Hh x*Ck x*Ck x else Hh x
def Hz (x : Qr):Rat:=Rat.divInt (On x) (Ma x)
theorem OM {x : Qr} (h:x.Ok):(Ah (Ck x).natAbs).length≤2:=DY (by
 obtain ⟨_,_,_,_,h1,h2⟩:=h
 unfold Ck
 simp only [BB]
 omega)
theorem Tx {x : Qr}:Hh x ≠ 0:=by unfold Hh;split <;> omega
theorem RV {x : Qr} (h:x.Ok):Ck x ≠ 0:=by
 obtain ⟨_,_,_,_,h1,h2⟩:=h
 unfold Ck
 omega
theorem A0n {x : Qr} (h:x.Ok):Ma x ≠ 0:=by
 unfold Ma
 split
 ·exact Int.mul_ne_zero (Int.mul_ne_zero Tx (RV h)) (RV h)
 ·exact Tx
theorem Qm {x : Qr} (h:x.Ok):(Ah (Hh x).natAbs).length≤1:=by
 obtain ⟨_,_,h3,h4,_,_⟩:=h
 unfold Hh
 split <;> exact IG (by omega) (by omega)
theorem Zd {x : Qr} (h:x.Ok):(Ah (Ma x).natAbs).length≤5:=by
 unfold Ma
 split
 ·exact Ci (N:=3) (Ci (N:=1) (Qm h) (OM h)) (OM h)
 ·exact Nat.le_trans (Qm h) (by omega)
theorem PX {x : Qr} (h:x.Ok):(Ah (x.n*Ck x*Ck x+x.k).natAbs).length≤5:=DY (by
 obtain ⟨h1,h2,_,_,h5,h6⟩:=h
 have hb0:0≤Ck x:=by unfold Ck;omega
 have hb:Ck x≤4611686018427388159:=by unfold Ck;omega
 have e1:-(128*4611686018427388159)≤x.n*Ck x∧x.n*Ck x≤128*4611686018427388159:=by
  have a:=Int.mul_le_mul_of_nonneg_right h1 hb0
  have b:=Int.mul_le_mul_of_nonneg_right h2 hb0
  omega
 generalize x.n*Ck x = y at e1
 have a:=Int.mul_le_mul_of_nonneg_right e1.1 hb0
 have b:=Int.mul_le_mul_of_nonneg_right e1.2 hb0
 simp only [BB]
 omega)
theorem YR {x : Qr} (h:x.Ok):(Ah (On x).natAbs).length≤5:=by
 unfold On
 split
 ·exact PX h
 ·obtain ⟨h1,h2,_⟩:=h
  exact Nat.le_trans (IG (by omega) (by omega)) (by omega:1≤5)
theorem SZ {z : Int} {N:Nat} (h:(Ah z.natAbs).length≤N) (h1:1≤N):RSz ((z:Int):Rat) N:=⟨by simpa using h,Nat.le_trans (by simpa using IG (z:=1) (by omega) (by omega)) h1⟩
theorem Xe {x : Qr} (h:x.Ok):RSz (Hz x) 10:=by
 unfold Hz
 rw [Rat.divInt_eq_div]
 exact (SZ (YR h) (by omega)).divQ (SZ (Zd h) (by omega)) (fun e=>A0n h (by exact_mod_cast e))
theorem Ul (x : Qr) (h:x.Ok):Abs Tryz.prog 34 [BF (qrC x)] (BF (BH (Hz x))):=by
 have hbl:=OM h
 have hbn:=RV h
 have hnB:=PX h
 obtain ⟨h1,h2,h3,h4,h5,h6⟩:=h
 have ln:(Ah x.n.natAbs).length≤1:=IG (by omega) (by omega)
 have ld:(Ah x.d.natAbs).length≤1:=IG (by omega) (by omega)
 have lk:(Ah x.k.natAbs).length≤1:=IG (by omega) (by omega)
 have l1:(Ah (1:Int).natAbs).length≤1:=IG (by omega) (by omega)
 have lnb:=Ci ln hbl
 have lnbb:=Ci lnb hbl
 have ldb:=Ci ld hbl
 have ldbb:=Ci ldb hbl
 have l1b:=Ci l1 hbl
 have l1bb:=Ci l1b hbl
 have hbig:Ck x≤9223372036854775807:=by unfold Ck;omega
 have hbig0:-9223372036854775808≤Ck x:=by unfold Ck;omega
 have hb2:Ck x*Ck x ≠ 0:=Int.mul_ne_zero hbn hbn
 have n1:(1:Int)*Ck x*Ck x ≠ 0:=Int.mul_ne_zero (Int.mul_ne_zero (by omega) hbn) hbn
 by_cases hD:x.d = 0
 ·have nd:x.d = 0∨x.d*Ck x*Ck x ≠ 0:=(Classical.em (x.d = 0)).imp id fun e=>Int.mul_ne_zero (Int.mul_ne_zero e hbn) hbn
  by_cases hk:x.k % 8 = 7
  ·refine Ab Tryz.func34 fun s0 => ?_
   rw [Tryz.ntmps34]
   apply Y1;refine Bx ?_;refine Al ?_;refine Y0<|Ac ?_
   refine Dr [[],[(6,0)],[(7,1)],[(8,2)],[],[(10,4)],[(11,5)],[(12,6)],[],[]] [[],[0],[0,1],[0,1,2],[],[4],[4,5],[0,1,2,3,4,5,6],[],[]] ?_
   refine Xq Ao ?_;refine Xq AB ?_;refine Xq BG ?_;refine Xq (Ag (Cc x.n (by omega) (by omega))) ?_;refine Xq Ao ?_;refine Xq AB ?_;refine Xq BG ?_;refine Xq (Ag (Cc x.d (by omega) (by omega))) ?_;refine Xn ?_;refine Xn ?_;refine ⟨_,rfl,?_⟩
   refine Sf ?_;refine Sf ?_;refine Y0<|Ac<|Y1 ?_;refine Wq Ao ?_;refine Wq AB ?_;refine Wq Am ?_;apply Y0;refine Ct ?_;apply AWp.region;refine Wq (Ag (Cc 1 (by omega) (by omega))) ?_;refine Sf ?_;refine Y0<|Y1 ?_;refine Wq Ao ?_;refine Wq AB ?_;refine Wq BG ?_;refine Wq El ?_;refine Wq (Ag (Cc (Ck x) hbig0 hbig)) ?_;refine Al ?_;refine Sf ?_;refine Y0<|Ac<|Y1 ?_;refine Wq Ao ?_;refine Wq AB ?_;refine Wq DC ?_;refine Wq Am ?_;apply Y0;refine Ct ?_
   refine Dr [[],[],[(27,0),(28,1)],[],[(29,2),(30,3)],[],[(32,5)],[(33,6)],[(34,7)],[(31,4),(35,8)]] [[],[],[0,1],[],[0,1,2,3],[],[5],[5,6],[0,1,2,3,4,5,6,7],[0,1,2,3,4,5,6,7,8]] ?_
   refine Xq Ar ?_;refine Xq Ar ?_;refine Xq (Ag (EN x.n (Ck x) (by omega) (by omega))) ?_;refine Xq Ar ?_;refine Xq (Ag (EN (x.n*Ck x) (Ck x) (by omega) (by omega))) ?_;refine Xq Ao ?_;refine Xq AB ?_;refine Xq BG ?_;refine Xq (Ag (Cc x.k (by omega) (by omega))) ?_;refine Xq (Ag (Ra (x.n*Ck x*Ck x) x.k (by omega) (by omega))) ?_;refine ⟨_,rfl,?_⟩
   refine Sf ?_;refine Y0<|Ac<|Y1 ?_;refine Wq Ao ?_;refine Wq AB ?_;refine Wq DC ?_;refine Wq Ak ?_;apply Y0;refine Cf ?_;refine Ys<|Y1 ?_;refine Wq Ar ?_;refine Wq Ar ?_;refine Wq (Ag (Ez (x.n*Ck x*Ck x+x.k) 1 (by omega) (by omega) (by omega))) ?_;refine Sf ?_;apply Y0;apply As
   exact Bd (Rets.of1 (ResV.cell rfl rfl (Ad rfl) rfl rfl rfl) (Bc (by simp only [Hz,On,Ma,Hh,if_pos hk,if_neg (show ¬ x.k % 8 = 6 by omega)];(first | rw [if_pos hD] | rw [if_neg hD]);rfl)))
  ·by_cases hk6:x.k % 8 = 6
   ·refine Ab Tryz.func34 fun s0 => ?_
    rw [Tryz.ntmps34]
    apply Y1;refine Bx ?_;refine Al ?_;refine Y0<|Ac ?_
    refine Dr [[],[(6,0)],[(7,1)],[(8,2)],[],[(10,4)],[(11,5)],[(12,6)],[],[]] [[],[0],[0,1],[0,1,2],[],[4],[4,5],[0,1,2,3,4,5,6],[],[]] ?_
    refine Xq Ao ?_;refine Xq AB ?_;refine Xq BG ?_;refine Xq (Ag (Cc x.n (by omega) (by omega))) ?_;refine Xq Ao ?_;refine Xq AB ?_;refine Xq BG ?_;refine Xq (Ag (Cc x.d (by omega) (by omega))) ?_;refine Xn ?_;refine Xn ?_;refine ⟨_,rfl,?_⟩
    refine Sf ?_;refine Sf ?_;refine Y0<|Ac<|Y1 ?_;refine Wq Ao ?_;refine Wq AB ?_;refine Wq Am ?_;apply Y0;refine Ct ?_;apply AWp.region;refine Wq (Ag (Cc 1 (by omega) (by omega))) ?_;refine Sf ?_;refine Y0<|Y1 ?_;refine Wq Ao ?_;refine Wq AB ?_;refine Wq BG ?_;refine Wq El ?_;refine Wq (Ag (Cc (Ck x) hbig0 hbig)) ?_;refine Al ?_;refine Sf ?_;refine Y0<|Ac<|Y1 ?_;refine Wq Ao ?_;refine Wq AB ?_;refine Wq DC ?_;refine Wq Ak ?_;apply Y0;refine Cf ?_;refine Ys<|Ac<|Y1 ?_;refine Wq Ao ?_;refine Wq AB ?_;refine Wq DC ?_;refine Wq Am ?_;apply Y0;refine Ct ?_
    refine Dr [[],[],[(41,0),(42,1)],[],[(43,2),(44,3)]] [[],[],[0,1],[],[0,1,2,3]] ?_
    refine Xq Ar ?_;refine Xq Ar ?_;refine Xq (Ag (EN 1 (Ck x) (by omega) (by omega))) ?_;refine Xq Ar ?_;refine Xq (Ag (EN (1*Ck x) (Ck x) (by omega) (by omega))) ?_;refine ⟨_,rfl,?_⟩
    refine Sf ?_;refine Y0<|Y1 ?_;refine Wq Ar ?_;refine Wq Ar ?_;refine Wq (Ag (Ez x.n (1*Ck x*Ck x) (by omega) (by omega) n1)) ?_;refine Sf ?_;apply Y0;apply As
    exact Bd (Rets.of1 (ResV.cell rfl rfl (Ad rfl) rfl rfl rfl) (Bc (by simp only [Hz,On,Ma,Hh,if_neg hk,if_pos hk6];(first | rw [if_pos hD] | rw [if_neg hD]);rfl)))
   ·refine Ab Tryz.func34 fun s0 => ?_
    rw [Tryz.ntmps34]
    apply Y1;refine Bx ?_;refine Al ?_;refine Y0<|Ac ?_
    refine Dr [[],[(6,0)],[(7,1)],[(8,2)],[],[(10,4)],[(11,5)],[(12,6)],[],[]] [[],[0],[0,1],[0,1,2],[],[4],[4,5],[0,1,2,3,4,5,6],[],[]] ?_
    refine Xq Ao ?_;refine Xq AB ?_;refine Xq BG ?_;refine Xq (Ag (Cc x.n (by omega) (by omega))) ?_;refine Xq Ao ?_;refine Xq AB ?_;refine Xq BG ?_;refine Xq (Ag (Cc x.d (by omega) (by omega))) ?_;refine Xn ?_;refine Xn ?_;refine ⟨_,rfl,?_⟩
    refine Sf ?_;refine Sf ?_;refine Y0<|Ac<|Y1 ?_;refine Wq Ao ?_;refine Wq AB ?_;refine Wq Am ?_;apply Y0;refine Ct ?_;apply AWp.region;refine Wq (Ag (Cc 1 (by omega) (by omega))) ?_;refine Sf ?_;refine Y0<|Y1 ?_;refine Wq Ao ?_;refine Wq AB ?_;refine Wq BG ?_;refine Wq El ?_;refine Wq (Ag (Cc (Ck x) hbig0 hbig)) ?_;refine Al ?_;refine Sf ?_;refine Y0<|Ac<|Y1 ?_;refine Wq Ao ?_;refine Wq AB ?_;refine Wq DC ?_;refine Wq Ak ?_;apply Y0;refine Cf ?_;refine Ys<|Ac<|Y1 ?_;refine Wq Ao ?_;refine Wq AB ?_;refine Wq DC ?_;refine Wq Ak ?_;apply Y0;refine Cf ?_;refine Ys<|Y1 ?_;refine Wq Ar ?_;refine Wq Ar ?_;refine Wq (Ag (Ez x.n 1 (by omega) (by omega) (by omega))) ?_;refine Sf ?_;apply Y0;apply As
    exact Bd (Rets.of1 (ResV.cell rfl rfl (Ad rfl) rfl rfl rfl) (Bc (by simp only [Hz,On,Ma,Hh,if_neg hk,if_neg hk6];(first | rw [if_pos hD] | rw [if_neg hD]);rfl)))
 ·have nd:x.d = 0∨x.d*Ck x*Ck x ≠ 0:=(Classical.em (x.d = 0)).imp id fun e=>Int.mul_ne_zero (Int.mul_ne_zero e hbn) hbn
  by_cases hk:x.k % 8 = 7
  ·refine Ab Tryz.func34 fun s0 => ?_
   rw [Tryz.ntmps34]
   apply Y1;refine Bx ?_;refine Al ?_;refine Y0<|Ac ?_
   refine Dr [[],[(6,0)],[(7,1)],[(8,2)],[],[(10,4)],[(11,5)],[(12,6)],[],[]] [[],[0],[0,1],[0,1,2],[],[4],[4,5],[0,1,2,3,4,5,6],[],[]] ?_
   refine Xq Ao ?_;refine Xq AB ?_;refine Xq BG ?_;refine Xq (Ag (Cc x.n (by omega) (by omega))) ?_;refine Xq Ao ?_;refine Xq AB ?_;refine Xq BG ?_;refine Xq (Ag (Cc x.d (by omega) (by omega))) ?_;refine Xn ?_;refine Xn ?_;refine ⟨_,rfl,?_⟩
   refine Sf ?_;refine Sf ?_;refine Y0<|Ac<|Y1 ?_;refine Wq Ao ?_;refine Wq AB ?_;refine Wq Ak ?_;apply Y0;refine Cf ?_;refine Ys<|Y1 ?_;refine Wq Ao ?_;refine Wq AB ?_;refine Wq BG ?_;refine Wq El ?_;refine Wq (Ag (Cc (Ck x) hbig0 hbig)) ?_;refine Al ?_;refine Sf ?_;refine Y0<|Ac<|Y1 ?_;refine Wq Ao ?_;refine Wq AB ?_;refine Wq DC ?_;refine Wq Am ?_;apply Y0;refine Ct ?_
   refine Dr [[],[],[(27,0),(28,1)],[],[(29,2),(30,3)],[],[(32,5)],[(33,6)],[(34,7)],[(31,4),(35,8)]] [[],[],[0,1],[],[0,1,2,3],[],[5],[5,6],[0,1,2,3,4,5,6,7],[0,1,2,3,4,5,6,7,8]] ?_
   refine Xq Ar ?_;refine Xq Ar ?_;refine Xq (Ag (EN x.n (Ck x) (by omega) (by omega))) ?_;refine Xq Ar ?_;refine Xq (Ag (EN (x.n*Ck x) (Ck x) (by omega) (by omega))) ?_;refine Xq Ao ?_;refine Xq AB ?_;refine Xq BG ?_;refine Xq (Ag (Cc x.k (by omega) (by omega))) ?_;refine Xq (Ag (Ra (x.n*Ck x*Ck x) x.k (by omega) (by omega))) ?_;refine ⟨_,rfl,?_⟩
   refine Sf ?_;refine Y0<|Ac<|Y1 ?_;refine Wq Ao ?_;refine Wq AB ?_;refine Wq DC ?_;refine Wq Ak ?_;apply Y0;refine Cf ?_;refine Ys<|Y1 ?_;refine Wq Ar ?_;refine Wq Ar ?_;refine Wq (Ag (Ez (x.n*Ck x*Ck x+x.k) x.d (by omega) (by omega) hD)) ?_;refine Sf ?_;apply Y0;apply As
   exact Bd (Rets.of1 (ResV.cell rfl rfl (Ad rfl) rfl rfl rfl) (Bc (by simp only [Hz,On,Ma,Hh,if_pos hk,if_neg (show ¬ x.k % 8 = 6 by omega)];(first | rw [if_pos hD] | rw [if_neg hD]);rfl)))
  ·by_cases hk6:x.k % 8 = 6
   ·refine Ab Tryz.func34 fun s0 => ?_
    rw [Tryz.ntmps34]
    apply Y1;refine Bx ?_;refine Al ?_;refine Y0<|Ac ?_
    refine Dr [[],[(6,0)],[(7,1)],[(8,2)],[],[(10,4)],[(11,5)],[(12,6)],[],[]] [[],[0],[0,1],[0,1,2],[],[4],[4,5],[0,1,2,3,4,5,6],[],[]] ?_
    refine Xq Ao ?_;refine Xq AB ?_;refine Xq BG ?_;refine Xq (Ag (Cc x.n (by omega) (by omega))) ?_;refine Xq Ao ?_;refine Xq AB ?_;refine Xq BG ?_;refine Xq (Ag (Cc x.d (by omega) (by omega))) ?_;refine Xn ?_;refine Xn ?_;refine ⟨_,rfl,?_⟩
    refine Sf ?_;refine Sf ?_;refine Y0<|Ac<|Y1 ?_;refine Wq Ao ?_;refine Wq AB ?_;refine Wq Ak ?_;apply Y0;refine Cf ?_;refine Ys<|Y1 ?_;refine Wq Ao ?_;refine Wq AB ?_;refine Wq BG ?_;refine Wq El ?_;refine Wq (Ag (Cc (Ck x) hbig0 hbig)) ?_;refine Al ?_;refine Sf ?_;refine Y0<|Ac<|Y1 ?_;refine Wq Ao ?_;refine Wq AB ?_;refine Wq DC ?_;refine Wq Ak ?_;apply Y0;refine Cf ?_;refine Ys<|Ac<|Y1 ?_;refine Wq Ao ?_;refine Wq AB ?_;refine Wq DC ?_;refine Wq Am ?_;apply Y0;refine Ct ?_
    refine Dr [[],[],[(41,0),(42,1)],[],[(43,2),(44,3)]] [[],[],[0,1],[],[0,1,2,3]] ?_
    refine Xq Ar ?_;refine Xq Ar ?_;refine Xq (Ag (EN x.d (Ck x) (by omega) (by omega))) ?_;refine Xq Ar ?_;refine Xq (Ag (EN (x.d*Ck x) (Ck x) (by omega) (by omega))) ?_;refine ⟨_,rfl,?_⟩
    refine Sf ?_;refine Y0<|Y1 ?_;refine Wq Ar ?_;refine Wq Ar ?_;refine Wq (Ag (Ez x.n (x.d*Ck x*Ck x) (by omega) (by omega) (nd.resolve_left hD))) ?_;refine Sf ?_;apply Y0;apply As
    exact Bd (Rets.of1 (ResV.cell rfl rfl (Ad rfl) rfl rfl rfl) (Bc (by simp only [Hz,On,Ma,Hh,if_neg hk,if_pos hk6];(first | rw [if_pos hD] | rw [if_neg hD]);rfl)))
   ·refine Ab Tryz.func34 fun s0 => ?_
    rw [Tryz.ntmps34]
    apply Y1;refine Bx ?_;refine Al ?_;refine Y0<|Ac ?_
    refine Dr [[],[(6,0)],[(7,1)],[(8,2)],[],[(10,4)],[(11,5)],[(12,6)],[],[]] [[],[0],[0,1],[0,1,2],[],[4],[4,5],[0,1,2,3,4,5,6],[],[]] ?_
    refine Xq Ao ?_;refine Xq AB ?_;refine Xq BG ?_;refine Xq (Ag (Cc x.n (by omega) (by omega))) ?_;refine Xq Ao ?_;refine Xq AB ?_;refine Xq BG ?_;refine Xq (Ag (Cc x.d (by omega) (by omega))) ?_;refine Xn ?_;refine Xn ?_;refine ⟨_,rfl,?_⟩
    refine Sf ?_;refine Sf ?_;refine Y0<|Ac<|Y1 ?_;refine Wq Ao ?_;refine Wq AB ?_;refine Wq Ak ?_;apply Y0;refine Cf ?_;refine Ys<|Y1 ?_;refine Wq Ao ?_;refine Wq AB ?_;refine Wq BG ?_;refine Wq El ?_;refine Wq (Ag (Cc (Ck x) hbig0 hbig)) ?_;refine Al ?_;refine Sf ?_;refine Y0<|Ac<|Y1 ?_;refine Wq Ao ?_;refine Wq AB ?_;refine Wq DC ?_;refine Wq Ak ?_;apply Y0;refine Cf ?_;refine Ys<|Ac<|Y1 ?_;refine Wq Ao ?_;refine Wq AB ?_;refine Wq DC ?_;refine Wq Ak ?_;apply Y0;refine Cf ?_;refine Ys<|Y1 ?_;refine Wq Ar ?_;refine Wq Ar ?_;refine Wq (Ag (Ez x.n x.d (by omega) (by omega) hD)) ?_;refine Sf ?_;apply Y0;apply As
    exact Bd (Rets.of1 (ResV.cell rfl rfl (Ad rfl) rfl rfl rfl) (Bc (by simp only [Hz,On,Ma,Hh,if_neg hk,if_neg hk6];(first | rw [if_pos hD] | rw [if_neg hD]);rfl)))
def JK (f : Nat→Rat) (n:Nat):List (List D):=(List.range n).map fun j=>BH (f j)
theorem EG (f : Nat→Rat) (n:Nat):(JK f n).length = n:=by simp [JK]
theorem Nh (f : Nat→Rat) (n:Nat):JK f n ++ [BH (f n)] = JK f (n+1):=by simp [JK,List.range_succ]
theorem Ol {r : List D} {sz:Nat} (h:r.length = sz):∀ k,k<[r].length→([r].getD k []).length = sz:=fun k hk=>by
 obtain rfl:k = 0:=by simpa using hk
 exact h
section
variable {P : Program} {s0:An} {n:Nat} {Q:Exit→AS→Prop} {fr:List (Nat × AV)} {hp:List Ow}
theorem VM {c : Code} {T:Nat} {f:Nat→Rat} {len:Nat} {frf:Nat→Nat→List (Nat × AV)} {hpf:Nat→List Ow} (id:Nat) (hh:hp[id]? = some (.obj (JI T 4 (JK f len)))) (h0:0<len) (hf:∀ g c,DN id (sX g len c) fr = some (frf g c)) (hpl:PlainHp id hp) (hs:∀ g,Db hp id (.obj (Bo [⟨g,T,Bh f len⟩])) = some (hpf g))
  (h:∀ g k,len≤k→k≤9223372036854775807→AWp P s0 n c Q ⟨frf g k,hpf g⟩):AWp P s0 n c Q ⟨fr,hp⟩:=by
 have hl:=EG f len
 refine ZO id hh (by omega) (fun g c=>by rw [hl];exact hf g c) hpl hs fun g k h1 h2=>h g k (by omega) h2
end
abbrev zR : Nat→Rat:=fun _=>((0:Int):Rat)
theorem MO (n : Nat) (h0:0<n) (hn:n≤1000):Con Tryz.prog 26 [.d (ex (.int .i64 (n:Nat)))] [] [] (fun r hp'=>∃ g c,n≤c∧c≤9223372036854775807∧r = .d (sX g n c)∧hp' = [.dead,.obj (Bo [⟨g,54,Bh zR n⟩])]):=by
 refine GY Tryz.func26 rfl (AG Tryz.func26 (by kernel_rfl) (by kernel_rfl)) rfl fun s0=>?_
 rw [Tryz.ntmps26]
 refine Y1<|Wa<|Y0<|Y1 ?_;refine EA (Ad rfl) (Ad rfl) rfl rfl rfl rfl rfl ?_;refine Wa<|Y0<|Ac<|Y1<|Wa<|Y0<|AWp.block ?_
 refine Ba (fun mz σ=>∃ k,k≤n∧mz = n - k∧σ = ⟨[(0,.d (ex (.int .i64 (n:Nat)))),(3,.own 1),(4,.d (ex (.int .i64 (k:Nat))))],[.pin [],.obj (JI 54 4 (JK zR k))]⟩) ?le ⟨0,by omega,rfl,rfl⟩ ?round
 case le =>
  refine FG (SM 1 rfl rfl) ?_
  exact Aq (by exact Yd<|FrLe.cons rfl (AVle.own rfl)<|Yd<|FrLe.nil) (by exact HpLe.cons (BV rfl)<|HpLe.cons (OwLe.obj rfl)<|HpLe.nil)
 case round =>
  rintro mz _ ⟨k,hk,rfl,rfl⟩
  by_cases hlt:k<n
  ·have hlk:=EG zR k
   refine Ac<|Y1<|Wm<|Wm ?_;refine Wq Am ?_;apply Y0;refine Ct ?_;refine Ys<|Ac<|AWp.block<|AWp.region<|Wm ?_;refine Wq (Ag (Bu 0 (by omega) (by omega))) ?_;refine Wq (By (ao rfl) (Ad rfl) (Ad rfl) rfl rfl rfl rfl rfl) ?_;(refine Ps (r2:=[BH ((0:Int):Rat)]) (ao rfl) rfl (Ol rfl) (by decide) rfl (Ad rfl) (Ad rfl) rfl rfl (by simp;omega) (by simp;omega) rfl (by first | ((repeat (first | exact PlainHp.nil | refine PlainHp.var ?_ | refine CX ?_ | refine PlainHp.dead ?_ | refine PlainHp.obj ?_ | refine PlainHp.pin rfl ?_ | refine CH rfl ?_));done) | fail) rfl ?_);refine Wa ?_;apply AWl.nil;apply Ai;refine Yn<|AWp.region<|Wm ?_;refine Wq AR ?_;refine Wa ?_;apply AWl.nil
   refine ALoop.next (n - (k+1)) (by omega) ⟨k+1,by omega,rfl,rfl⟩ ?_
   exact Aq (by exact Yd<|FrLe.cons rfl (AVle.own rfl)<|Yd<|FrLe.nil) (by exact HpLe.cons (BV rfl)<|HpLe.cons (OwLe.obj (by rw [← Nh]))<|HpLe.nil)
  ·obtain rfl : n = k := by omega
   refine VM 1 rfl h0 (fun g c=>rfl) (by first | ((repeat (first | exact PlainHp.nil | refine PlainHp.var ?_ | refine CX ?_ | refine PlainHp.dead ?_ | refine PlainHp.obj ?_ | refine PlainHp.pin rfl ?_ | refine CH rfl ?_));done) | fail) (fun g=>rfl) fun g c hc1 hc2=>?_
   refine Ac<|Y1<|Wm<|Wm ?_;refine Wq Ak ?_;apply Y0;refine Cf ?_;apply AZ;apply AE;apply AM;apply AF;refine Yn<|Y1<|Wm<|Wa<|Y0 ?_;apply As
   refine FD (RetsA.one rfl) rfl ?_ rfl
   exact ⟨g,c,hc1,hc2,rfl,rfl⟩
def VU (T : Nat) (V:List Int):D:=slD T 1 (V.map fun z=>[ex (.int .i8 z)])
def Mr8 (V : List Int):Prop:=∀ z∈V,-128≤z∧z≤127
def dV (v : Int):Int:=if 90<v then 2 else if v < -90 then 3 else 1
def qV (v : Int):Qr:=⟨v.tmod 4,dV v,0⟩
def Lu (V : List Int) (k j:Nat):Rat:=if V = [] then ((0:Int):Rat) else Hz (qV (V.getD ((k+j) % V.length) default))
def JJ (V : List Int) (k n:Nat) (j:Nat):Rat:=if j<n then Lu V k j else ((0:Int):Rat)
theorem A07 (z : Int):-3≤Int.tmod z 4∧Int.tmod z 4≤3:=by
 rcases Int.le_total 0 z with h | h
 ·rw [Int.tmod_eq_emod_of_nonneg h];omega
 ·have:Int.tmod z 4 = -((-z) % 4):=by
   rw [← Int.tmod_eq_emod_of_nonneg (by omega),Int.neg_tmod,Int.neg_neg]
  omega
theorem A1j (v : Int):1≤dV v∧dV v≤3:=by
 unfold dV
 split
 ·omega
 ·split <;> omega
theorem ZX (v : Int):(qV v).Ok:=by
 have h:=A07 v
 have h':=A1j v
 exact ⟨show -128≤v.tmod 4 by omega,show v.tmod 4≤127 by omega,show -128≤dV v by omega,show dV v≤127 by omega,Int.le_refl 0,show (0:Int)≤255 by omega⟩
theorem YJ (V : List Int) (k j:Nat):RSz (Lu V k j) 10:=by
 unfold Lu
 split
 ·exact RSz.mono (DO (by omega) (by omega):RSz _ 1) (by omega)
 ·exact Xe (ZX _)
theorem Ug (V : List Int) (k:Nat):JJ V k 0 = zR:=by
 funext j
 rw [JJ,if_neg (by omega)]
theorem WD (V : List Int) (k j:Nat):Dv (JJ V k j) j (Lu V k j) = JJ V k (j+1):=by
 funext i
 unfold Dv JJ
 rcases Nat.lt_trichotomy i j with h | h | h
 ·rw [if_neg (by omega),if_pos h,if_pos (by omega)]
 ·subst h
  rw [if_pos rfl,if_pos (by omega)]
 ·rw [if_neg (by omega),if_neg (by omega),if_neg (by omega)]
theorem WE {V : List Int} {k n:Nat}:Bh (JJ V k n) n = Bh (Lu V k) n:=EK fun j hj=>by rw [JJ,if_pos hj]
theorem YI (T : Nat) (V:List Int) (hV:Mr8 V) (k n:Nat) (h0:0<n) (hn:n≤100) (hk:k≤1000):Con Tryz.prog 27 [.d (BF [VU T V]),.d (ex (.int .i64 (k:Nat))),.d (ex (.int .i64 (n:Nat)))] [] [] (fun r hp'=>∃ g c,n≤c∧c≤9223372036854775807∧r = .d (sX g n c)∧hp' = [.dead,.var 25 ([VU T V].map .d),.dead,.obj (Bo [⟨g,54,Bh (Lu V k) n⟩])]):=by
 by_cases hV0:V = []
 ·subst hV0
  have hl0:(([]:List Int)).length = 0:=rfl
  refine GY Tryz.func27 rfl (AG Tryz.func27 (by kernel_rfl) (by kernel_rfl)) rfl fun s0=>?_
  rw [Tryz.ntmps27]
  apply Y1;refine Bx ?_;refine Wa<|Y0<|Y1<|Wm ?_
  refine Fh [] [] (MO n h0 (by omega)) (.inl rfl) rfl rfl (.inl ⟨rfl,rfl⟩) (by repeat (first | exact ArgsC.nil | refine ArgsC.d rfl (D.le.refl _) ?_ | refine Ep rfl rfl ?_)) (by decide) SelR.nil trivial rfl ?_
  rintro _ _ ⟨g,c,hc1,hc2,rfl,rfl⟩
  refine ⟨_,_,_,(by first | exact AVRen.d | exact AVRen.own rfl | exact AVRen.ptr rfl | exact Eq rfl),(by repeat (first | exact SetR.nil | (apply SetR.cons;(first | exact OwRen.dead | exact BJ | exact OwRen.obj | exact BU | exact BK rfl);exact rfl))),(by repeat (first | exact AppR.nil | (apply AppR.cons;(first | exact OwRen.dead | exact BJ | exact OwRen.obj | exact BU | exact BK rfl);exact rfl))),?_⟩
  refine Wa<|Y0<|Ac<|Y1<|Wa<|Y0<|AWp.block ?_
  refine Ba (fun mz σ=>∃ j,j≤0∧mz = 0 - j∧σ = ⟨[(2,.d (ex (.int .i64 (n:Nat)))),(3,.ptr 1 0),(7,.d (sX g n c)),(8,.d (ex (.int .i64 (j:Nat))))],[.pin [],.var 25 ([VU T []].map .d),.dead,.obj (Bo [⟨g,54,Bh zR n⟩])]⟩) ?lej ⟨0,by omega,rfl,rfl⟩ ?roundj
  case lej=>exact Aq (by exact Yd<|Yp<|Yd<|Yd<|FrLe.nil) (by exact HpLe.cons (BV rfl)<|Yv<|HpLe.cons (OwLe.dead)<|HpLe.cons (OwLe.obj rfl)<|HpLe.nil)
  case roundj =>
   rintro mz _ ⟨j,hj,rfl,rfl⟩
   by_cases hltj:j<0
   ·omega
   ·obtain rfl : j = 0 := by omega
    refine Ac<|Y1<|Wm<|Wm ?_;refine Wq Am ?_;refine Wm ?_;refine Wg Ao ?_;refine Wg AB ?_;refine Wg AH ?_;refine Wg Ak ?_;refine Wq AP ?_;apply Y0;refine Cf ?_;apply AZ;apply AE;apply AM;apply AF;refine Yn<|Y1<|Wm<|Wa<|Y0 ?_;apply As
    refine FD (RetsA.one rfl) rfl ?_ rfl
    exact ⟨g,c,hc1,hc2,rfl,by rw [EK (f:=Lu [] k) (g:=zR) fun j _=>if_pos rfl]⟩
 ·have hVl:0<V.length:=List.length_pos_iff.2 hV0
  refine GY Tryz.func27 rfl (AG Tryz.func27 (by kernel_rfl) (by kernel_rfl)) rfl fun s0=>?_
  rw [Tryz.ntmps27]
  apply Y1;refine Bx ?_;refine Wa<|Y0<|Y1<|Wm ?_
  refine Fh [] [] (MO n h0 (by omega)) (.inl rfl) rfl rfl (.inl ⟨rfl,rfl⟩) (by repeat (first | exact ArgsC.nil | refine ArgsC.d rfl (D.le.refl _) ?_ | refine Ep rfl rfl ?_)) (by decide) SelR.nil trivial rfl ?_
  rintro _ _ ⟨g,c,hc1,hc2,rfl,rfl⟩
  refine ⟨_,_,_,(by first | exact AVRen.d | exact AVRen.own rfl | exact AVRen.ptr rfl | exact Eq rfl),(by repeat (first | exact SetR.nil | (apply SetR.cons;(first | exact OwRen.dead | exact BJ | exact OwRen.obj | exact BU | exact BK rfl);exact rfl))),(by repeat (first | exact AppR.nil | (apply AppR.cons;(first | exact OwRen.dead | exact BJ | exact OwRen.obj | exact BU | exact BK rfl);exact rfl))),?_⟩
  refine Wa<|Y0<|Ac<|Y1<|Wa<|Y0<|AWp.block ?_
  refine Ba (fun mz σ=>∃ j,j≤n∧mz = n - j∧σ = ⟨[(1,.d (ex (.int .i64 (k:Nat)))),(2,.d (ex (.int .i64 (n:Nat)))),(3,.ptr 1 0),(7,.d (sX g n c)),(8,.d (ex (.int .i64 (j:Nat))))],[.pin [],.var 25 ([VU T V].map .d),.dead,.obj (Bo [⟨g,54,Bh (JJ V k j) n⟩])]⟩) ?lej ⟨0,by omega,rfl,rfl⟩ ?roundj
  case lej=>exact Aq (by exact Yd<|Yd<|Yp<|Yd<|Yd<|FrLe.nil) (by exact HpLe.cons (BV rfl)<|Yv<|HpLe.cons (OwLe.dead)<|HpLe.cons (OwLe.obj (by rw [Ug]))<|HpLe.nil)
  case roundj =>
   rintro mz _ ⟨j,hj,rfl,rfl⟩
   by_cases hltj:j<n
   ·have hi:(k+j) % V.length<V.length:=Nat.mod_lt _ hVl
    have hv:=hV (V.getD ((k+j) % V.length) default) (by rw [List.getD_eq_getElem?_getD,List.getElem?_eq_getElem hi];exact List.getElem_mem _)
    have er:Lu V k j = Hz (qV (V.getD ((k+j) % V.length) default)):=if_neg hV0
    obtain ⟨v,hvg⟩:∃ v,V.getD ((k+j) % V.length) default = v:=⟨_,rfl⟩
    have cq:Abs Tryz.prog 34 [BF [ex (.int .i8 (Int.tmod (V.getD ((k+j) % V.length) default) 4)),ex (.int .i8 (dV v)),ex (.int .u8 0)]] (BF (BH (Lu V k j))):=by rw [er,hvg];exact Ul _ (ZX v)
    have hset:SetAt (Bh (JJ V k j) n) (j*4) (BH (Lu V k j)) (Bh (JJ V k (j+1)) n):=by rw [← WD];exact GT hltj
    rcases (show 90<v∨(¬ 90<v∧v < -90)∨(¬ 90<v∧¬ v < -90) by omega) with hc | ⟨hc,hc'⟩ | ⟨hc,hc'⟩
    ·rw [show dV v = 2 by rw [dV, if_pos hc]] at cq
     refine Ac<|Y1<|Wm<|Wm ?_;refine Wq Am ?_;refine Wm ?_;refine Wg Ao ?_;refine Wg AB ?_;refine Wg AH ?_;refine Wg Am ?_;refine Wq AP ?_;apply Y0;refine Ct ?_;refine Ys<|Ac<|AWp.block<|Ac ?_
     refine Dr [[],[(24,0)],[],[],[(26,2),(27,3)],[],[(29,5)],[(30,6)],[(28,4),(31,7)],[(25,1),(32,8)],[(33,9)]] [[],[0],[],[],[2,3],[],[5],[5,6],[2,3,4,5,6,7],[0,1,2,3,4,5,6,7,8],[0,1,2,3,4,5,6,7,8,9]] ?_
     refine Xq Ao ?_;refine Xq AB ?_;refine Xq Af ?_;refine Xq Af ?_;refine Xq El ?_;refine Xq Ao ?_;refine Xq AB ?_;refine Xq AH ?_;refine Xq DC ?_;refine Xq (DK (k:=(k+j) % V.length) rfl (ah rfl) (Ad rfl) (Ad rfl) rfl (by omega)) ?_;refine Xq BS ?_;refine ⟨_,rfl,?_⟩
     refine Wa<|Y0<|Y1<|Wa<|Y0<|Ac<|Y1<|Wm ?_;refine Wq Am ?_;apply Y0;refine Ct ?_;refine AWp.region<|Wa<|Y0<|Ac<|Y1<|Wm ?_;refine Wq Ak ?_;apply Y0;refine Cf ?_;refine Ys<|AWp.region<|Wm<|Wm<|Wm ?_;refine Wq (Pf (k:=.i8) (ao rfl) (ao rfl) (by decide)) ?_;refine Wm ?_;(refine Cz rfl rfl ?_;(refine BO (Ad rfl) rfl rfl rfl ?_;(repeat ((first | refine ⟨_,AK (ao rfl),?_⟩ | refine ⟨_,Po rfl,?_⟩);refine ⟨_,rfl,?_⟩));refine ⟨_,rfl,?_⟩));refine Wq (Ag (cq)) ?_;refine Wq (BI (k:=j) (ao rfl) (ao rfl) (Ad rfl) (Ad rfl) hltj) ?_;refine KU (e:=⟨g,54,Bh (JJ V k j) n⟩) 3 0 (ao rfl) (ao rfl) rfl rfl (Ad rfl) rfl hset rfl ?_;apply AWl.nil;apply Ai;refine Yn<|AWp.region<|Wm ?_;refine Wq AR ?_;refine Wa ?_;apply AWl.nil
     refine ALoop.next (n - (j+1)) (by omega) ⟨j+1,by omega,rfl,rfl⟩ ?_
     exact Aq (by exact Yd<|Yd<|Yp<|Yd<|Yd<|FrLe.nil) (by exact HpLe.cons (BV rfl)<|Yv<|HpLe.cons (OwLe.dead)<|HpLe.cons (OwLe.obj rfl)<|HpLe.nil)
    ·rw [show dV v = 3 by rw [dV, if_neg hc, if_pos hc']] at cq
     refine Ac<|Y1<|Wm<|Wm ?_;refine Wq Am ?_;refine Wm ?_;refine Wg Ao ?_;refine Wg AB ?_;refine Wg AH ?_;refine Wg Am ?_;refine Wq AP ?_;apply Y0;refine Ct ?_;refine Ys<|Ac<|AWp.block<|Ac ?_
     refine Dr [[],[(24,0)],[],[],[(26,2),(27,3)],[],[(29,5)],[(30,6)],[(28,4),(31,7)],[(25,1),(32,8)],[(33,9)]] [[],[0],[],[],[2,3],[],[5],[5,6],[2,3,4,5,6,7],[0,1,2,3,4,5,6,7,8],[0,1,2,3,4,5,6,7,8,9]] ?_
     refine Xq Ao ?_;refine Xq AB ?_;refine Xq Af ?_;refine Xq Af ?_;refine Xq El ?_;refine Xq Ao ?_;refine Xq AB ?_;refine Xq AH ?_;refine Xq DC ?_;refine Xq (DK (k:=(k+j) % V.length) rfl (ah rfl) (Ad rfl) (Ad rfl) rfl (by omega)) ?_;refine Xq BS ?_;refine ⟨_,rfl,?_⟩
     refine Wa<|Y0<|Y1<|Wa<|Y0<|Ac<|Y1<|Wm ?_;refine Wq Ak ?_;apply Y0;refine Cf ?_;refine Ys<|Ac<|Y1<|Wm ?_;refine Wq Am ?_;apply Y0;refine Ct ?_;refine AWp.region<|Wa<|Y0<|AWp.region<|Wm<|Wm<|Wm ?_;refine Wq (Pf (k:=.i8) (ao rfl) (ao rfl) (by decide)) ?_;refine Wm ?_;(refine Cz rfl rfl ?_;(refine BO (Ad rfl) rfl rfl rfl ?_;(repeat ((first | refine ⟨_,AK (ao rfl),?_⟩ | refine ⟨_,Po rfl,?_⟩);refine ⟨_,rfl,?_⟩));refine ⟨_,rfl,?_⟩));refine Wq (Ag (cq)) ?_;refine Wq (BI (k:=j) (ao rfl) (ao rfl) (Ad rfl) (Ad rfl) hltj) ?_;refine KU (e:=⟨g,54,Bh (JJ V k j) n⟩) 3 0 (ao rfl) (ao rfl) rfl rfl (Ad rfl) rfl hset rfl ?_;apply AWl.nil;apply Ai;refine Yn<|AWp.region<|Wm ?_;refine Wq AR ?_;refine Wa ?_;apply AWl.nil
     refine ALoop.next (n - (j+1)) (by omega) ⟨j+1,by omega,rfl,rfl⟩ ?_
     exact Aq (by exact Yd<|Yd<|Yp<|Yd<|Yd<|FrLe.nil) (by exact HpLe.cons (BV rfl)<|Yv<|HpLe.cons (OwLe.dead)<|HpLe.cons (OwLe.obj rfl)<|HpLe.nil)
    ·rw [show dV v = 1 by rw [dV, if_neg hc, if_neg hc']] at cq
     refine Ac<|Y1<|Wm<|Wm ?_;refine Wq Am ?_;refine Wm ?_;refine Wg Ao ?_;refine Wg AB ?_;refine Wg AH ?_;refine Wg Am ?_;refine Wq AP ?_;apply Y0;refine Ct ?_;refine Ys<|Ac<|AWp.block<|Ac ?_
     refine Dr [[],[(24,0)],[],[],[(26,2),(27,3)],[],[(29,5)],[(30,6)],[(28,4),(31,7)],[(25,1),(32,8)],[(33,9)]] [[],[0],[],[],[2,3],[],[5],[5,6],[2,3,4,5,6,7],[0,1,2,3,4,5,6,7,8],[0,1,2,3,4,5,6,7,8,9]] ?_
     refine Xq Ao ?_;refine Xq AB ?_;refine Xq Af ?_;refine Xq Af ?_;refine Xq El ?_;refine Xq Ao ?_;refine Xq AB ?_;refine Xq AH ?_;refine Xq DC ?_;refine Xq (DK (k:=(k+j) % V.length) rfl (ah rfl) (Ad rfl) (Ad rfl) rfl (by omega)) ?_;refine Xq BS ?_;refine ⟨_,rfl,?_⟩
     refine Wa<|Y0<|Y1<|Wa<|Y0<|Ac<|Y1<|Wm ?_;refine Wq Ak ?_;apply Y0;refine Cf ?_;refine Ys<|Ac<|Y1<|Wm ?_;refine Wq Ak ?_;apply Y0;refine Cf ?_;refine Ys<|AWp.region<|Wm<|Wm<|Wm ?_;refine Wq (Pf (k:=.i8) (ao rfl) (ao rfl) (by decide)) ?_;refine Wm ?_;(refine Cz rfl rfl ?_;(refine BO (Ad rfl) rfl rfl rfl ?_;(repeat ((first | refine ⟨_,AK (ao rfl),?_⟩ | refine ⟨_,Po rfl,?_⟩);refine ⟨_,rfl,?_⟩));refine ⟨_,rfl,?_⟩));refine Wq (Ag (cq)) ?_;refine Wq (BI (k:=j) (ao rfl) (ao rfl) (Ad rfl) (Ad rfl) hltj) ?_;refine KU (e:=⟨g,54,Bh (JJ V k j) n⟩) 3 0 (ao rfl) (ao rfl) rfl rfl (Ad rfl) rfl hset rfl ?_;apply AWl.nil;apply Ai;refine Yn<|AWp.region<|Wm ?_;refine Wq AR ?_;refine Wa ?_;apply AWl.nil
     refine ALoop.next (n - (j+1)) (by omega) ⟨j+1,by omega,rfl,rfl⟩ ?_
     exact Aq (by exact Yd<|Yd<|Yp<|Yd<|Yd<|FrLe.nil) (by exact HpLe.cons (BV rfl)<|Yv<|HpLe.cons (OwLe.dead)<|HpLe.cons (OwLe.obj rfl)<|HpLe.nil)
   ·obtain rfl : n = j := by omega
    refine Ac<|Y1<|Wm<|Wm ?_;refine Wq Ak ?_;refine Wm ?_;refine Ws ?_;refine Ws ?_;refine Ws ?_;refine Ws ?_;refine Wq AD ?_;apply Y0;refine Cf ?_;apply AZ;apply AE;apply AM;apply AF;refine Yn<|Y1<|Wm<|Wa<|Y0 ?_;apply As
    refine FD (RetsA.one rfl) rfl ?_ rfl
    exact ⟨g,c,hc1,hc2,rfl,by rw [WE]⟩
theorem Hset.row {s : GS} {f:Nat→Rat} {b n cap:Nat} (h:Hset s ⟨b,54,Bh f n⟩) (h1:n≤cap) (h2:cap≤9223372036854775807):(Uf f n).rel s (.slice (some ⟨b,0,none⟩) n cap):=by
 have hl:=EG f n
 refine h.sl (rows:=JK f n) rfl hl h1 h2 (fun k hk=>?_) fun k j hk hj=>?_
 ·rw [hl] at hk
  rw [JK,List.getD_eq_getElem?_getD,List.getElem?_map,List.getElem?_range hk]
  exact Dy _
 ·rw [hl] at hk
  have e1:(JK f n).getD k [] = BH (f k):=by
   rw [JK,List.getD_eq_getElem?_getD,List.getElem?_map,List.getElem?_range hk]
   rfl
  refine ⟨?_,?_⟩
  ·show k*4+j<(Bh f n).length
   rw [Cj]
   omega
  ·rw [e1]
   show BP (Bh f n) (k*4+j) = _
   unfold BP
   rw [List.getD_eq_getElem?_getD,List.getD_eq_getElem?_getD,HH f hk hj]
theorem YC {s : GS} {T sz:Nat} {rows rows':List (List D)} (hl:rows.length = rows'.length) (h:∀ k,k<rows.length→(rows.getD k []).length = (rows'.getD k []).length∧∀ j,j<(rows.getD k []).length→∀ u,(BP (rows.getD k []) j).rel s u→(BP (rows'.getD k []) j).rel s u) {v:Value} (hv:(slD T sz rows).rel s v):(slD T sz rows').rel s v:=by
 obtain ⟨A,c,e,h1,h2,h3⟩:=hv
 refine ⟨A,c,by rw [e,hl],by rw [← hl];exact h1,h2,fun h0=>?_⟩
 rw [← hl] at h0
 obtain ⟨b,o,e1,h4⟩:=h3 h0
 refine ⟨b,o,e1,fun k hk=>?_⟩
 rw [← hl] at hk
 obtain ⟨h5,cs,fz,h6,h7⟩:=h4 k hk
 obtain ⟨h8,h9⟩:=h k hk
 refine ⟨h8 ▸ h5,cs,fz,h6,fun j hj=>?_⟩
 rw [← h8] at hj
 obtain ⟨h10,u,h11,h12,h13⟩:=h7 j hj
 exact ⟨h10,u,h11,h12,h9 j hj u h13⟩
def Ls (m n:Nat) (b:Nat→Nat) (M:Nat→Nat→Rat):List HE:=(List.range m).map fun i=>⟨b i,54,Bh (M i) n⟩
def ET (m n:Nat) (b c:Nat→Nat):List (List D):=(List.range m).map fun i=>[sX (b i) n (c i)]
theorem WB {s : GS} {m n:Nat} {b c:Nat→Nat} {M:Nat→Nat→Rat} (h:∀ e∈Ls m n b M,Hset s e) (hc:∀ i,i<m→n≤c i∧c i≤9223372036854775807) {v:Value} (hv:(slD 63 1 (ET m n b c)).rel s v):(Ee m n M).rel s v:=by
 refine YC (by simp [ET]) (fun k hk=>?_) hv
 have hk':k<m:=by simpa [ET] using hk
 have e1:(ET m n b c).getD k [] = [sX (b k) n (c k)]:=by simp [ET,hk']
 have e2:((List.range m).map fun i=>[Uf (M i) n]).getD k [] = [Uf (M k) n]:=by simp [hk']
 rw [e1,e2]
 refine ⟨rfl,fun j hj u hu=>?_⟩
 obtain rfl:j = 0:=by simpa using hj
 obtain rfl:u = .slice (some ⟨b k,0,none⟩) n (c k):=hu
 exact Hset.row (h _ (List.mem_map.2 ⟨k,List.mem_range.2 hk',rfl⟩)) (hc k hk').1 (hc k hk').2
theorem Ry {m n g:Nat} {b:Nat→Nat} {M:Nat→Nat→Rat}:Ls m n b M ++ [⟨g,54,Bh (M m) n⟩] = Ls (m+1) n (Dv b m g) M:=by
 simp only [Ls,List.range_succ,List.map_append,List.map_cons,List.map_nil,Dv]
 congr 1
 apply List.map_congr_left
 intro i hi
 have:=List.mem_range.1 hi
 rw [if_neg (by omega)]
theorem Rz {m n g cg:Nat} {b c:Nat→Nat}:ET m n b c ++ [[sX g n cg]] = ET (m+1) n (Dv b m g) (Dv c m cg):=by
 simp only [ET,List.range_succ,List.map_append,List.map_cons,List.map_nil,Dv]
 congr 1
 apply List.map_congr_left
 intro i hi
 have:=List.mem_range.1 hi
 rw [if_neg (by omega),if_neg (by omega)]
abbrev Oy : List TypeId:=[63,54]
theorem SN (l : List Nat) : (wD l).free Oy := fun s S' v hS h => ⟨D.free.sl (by decide) (fun r hr => by
 obtain ⟨x,_,rfl⟩:=List.mem_map.1 hr
 exact allFree.cons D.free.ex_ allFree.nil) s S' v hS h.1,h.2⟩
theorem Nj (q : Rat):allFree Oy (BH q):=.cons .ex_ (.cons (SN _) (.cons .ex_ (.cons (SN _) .nil)))
theorem Uw (a : Nat→Int):allFree Oy (Cd a):=.cons .ex_ (.cons .ex_ (.cons .ex_ (.cons .ex_ (.cons .ex_ (.cons .ex_ (.cons .ex_ (.cons .ex_ .nil)))))))
theorem Un (P : List Tm) : (Bi P).free Oy := .sl (by decide) fun r hr => by
 obtain ⟨t,_,rfl⟩:=List.mem_map.1 hr
 exact (Nj t.c).app (Uw t.m)
theorem Wr (L : List Sq) : (Io L).free Oy := .sl (by decide) fun r hr => by
 obtain ⟨s,_,rfl⟩:=List.mem_map.1 hr
 exact (Nj s.a).app (.cons (Un s.p) .nil)
theorem LK (L : List Sq) (e:Int):(Da [Io L,ex (.int .i64 e)]).free Oy:=.tup (.cons (Wr L) (.cons .ex_ .nil))
def Il (m : Nat) (len b c:Nat→Nat):List D:=(List.range m).map fun i=>sX (b i) (len i) (c i)
def CS (m : Nat) (len:Nat→Nat) (b0:Nat) (b c:Nat→Nat) (N:Nat→Nat→Rat):List HE :=
 ⟨b0,63,Il m len b c⟩ :: (List.range m).map fun i=>⟨b i,54,Bh (N i) (len i)⟩
def Hg (m c0:Nat) (c:Nat→Nat):List Nat:=c0*1 :: (List.range m).map fun i=>c i*4
theorem JR {m i b0:Nat} {len b c:Nat→Nat} {N:Nat→Nat→Rat} (h:i<m):(CS m len b0 b c N)[i+1]? = some ⟨b i,54,Bh (N i) (len i)⟩:=by simp [CS,h]
theorem UG {m i c0:Nat} {c:Nat→Nat} (h:i<m):(Hg m c0 c)[i+1]? = some (c i*4):=by simp [Hg,h]
theorem FM (m : Nat) (len b c:Nat→Nat):(Il m len b c).length = m:=by simp [Il]
theorem JC {m i:Nat} {len b c:Nat→Nat} (h:i<m):CellAt (Il m len b c) (i*1) (sX (b i) (len i) (c i)):=by
 rw [Nat.mul_one]
 exact ⟨by rw [FM];exact h,by simp [Il,BP,h]⟩
theorem UK {m i j b0:Nat} {len b c:Nat→Nat} {N:Nat→Nat→Rat} {v:Rat} (h:i<m):(CS m len b0 b c N).set (i+1) ⟨b i,54,Bh (Dv (N i) j v) (len i)⟩ = CS m len b0 b c (Yx N i j v):=by
 simp only [CS,List.set_cons_succ]
 congr 1
 apply List.ext_getElem?
 intro k
 rw [List.getElem?_set]
 by_cases hk:k<m
 ·by_cases e:i = k
  ·subst e
   rw [if_pos rfl,if_pos (by simpa using h),List.getElem?_map,List.getElem?_range h]
   simp [Yx,Dv]
  ·rw [if_neg e,List.getElem?_map,List.getElem?_map,List.getElem?_range hk]
   have:¬ k = i:=fun h=>e h.symm
   simp [Yx,Dv,this]
 ·have e : ¬ i = k := by omega
  rw [if_neg e,List.getElem?_eq_none (by simpa using hk),List.getElem?_eq_none (by simpa using hk)]
theorem Wd {m i g l' c':Nat} {len b c:Nat→Nat} (h:i<m):SetAt (Il m len b c) (i*1) [sX g l' c'] (Il m (Dv len i l') (Dv b i g) (Dv c i c')):=by
 rw [Nat.mul_one]
 refine ⟨by rw [FM];exact h,?_⟩
 apply List.ext_getElem?
 intro k
 unfold MY
 simp only [Il]
 rw [List.getElem?_append,List.length_take,List.length_map,List.length_range,Nat.min_eq_left (by omega)]
 by_cases h1:k<i
 ·rw [if_pos h1,List.getElem?_take,if_pos h1]
  have:¬ k = i:=by omega
  simp [show k<m by omega,Dv,this]
 ·rw [if_neg h1]
  by_cases h2:k = i
  ·subst h2
   simp [Dv,h]
  ·rw [List.getElem?_append_right (by simp; omega), List.getElem?_drop]
   have e:i+[sX g l' c'].length+(k - i - [sX g l' c'].length) = k:=by simp;omega
   rw [e]
   by_cases h3:k<m
   ·simp [h3,Dv,h2]
   ·simp [h3]
theorem UL {m i b0 g c':Nat} {len b c:Nat→Nat} {N:Nat→Nat→Rat} (h:i<m):((CS m len b0 b c N).set (i+1) ⟨g,54,Bh (N i) (len i) ++ BH (N i (len i))⟩).set 0 ⟨b0,63,Il m (Dv len i (len i+1)) (Dv b i g) (Dv c i c')⟩ = CS m (Dv len i (len i+1)) b0 (Dv b i g) (Dv c i c') N:=by
 simp only [CS,List.set_cons_succ,List.set_cons_zero]
 congr 1
 rw [← IJ]
 apply List.ext_getElem?
 intro k
 rw [List.getElem?_set]
 by_cases hk:k<m
 ·by_cases e:i = k
  ·subst e
   rw [if_pos rfl,if_pos (by simpa using h),List.getElem?_map,List.getElem?_range h]
   simp [Dv]
  ·rw [if_neg e,List.getElem?_map,List.getElem?_map,List.getElem?_range hk]
   have:¬ k = i:=fun h=>e h.symm
   simp [Dv,this]
 ·have e : ¬ i = k := by omega
  rw [if_neg e,List.getElem?_eq_none (by simpa using hk),List.getElem?_eq_none (by simpa using hk)]
theorem UH {m i c0 c':Nat} {c:Nat→Nat} (h:i<m):(Hg m c0 c).set (i+1) (c'*4) = Hg m c0 (Dv c i c'):=by
 simp only [Hg,List.set_cons_succ]
 congr 1
 apply List.ext_getElem?
 intro k
 rw [List.getElem?_set]
 by_cases hk:k<m
 ·by_cases e:i = k
  ·subst e
   rw [if_pos rfl,if_pos (by simpa using h),List.getElem?_map,List.getElem?_range h]
   simp [Dv]
  ·rw [if_neg e,List.getElem?_map,List.getElem?_map,List.getElem?_range hk]
   have:¬ k = i:=fun h=>e h.symm
   simp [Dv,this]
 ·have e : ¬ i = k := by omega
  rw [if_neg e,List.getElem?_eq_none (by simpa using hk),List.getElem?_eq_none (by simpa using hk)]
theorem Qd {s : GS} {m n b0 c0:Nat} {len b c:Nat→Nat} {N:Nat→Nat→Rat} (h:∀ e∈CS m len b0 b c N,Hset s e) (hlen:∀ i,i<m→len i = n) (hc:∀ i,i<m→n≤c i∧c i≤9223372036854775807) (h0:m≤c0) (h0':c0≤9223372036854775807) {v:Value} (hv:(sX b0 m c0).rel s v):(Ee m n N).rel s v:=by
 obtain rfl:v = .slice (some ⟨b0,0,none⟩) m c0:=hv
 have ht:Il m len b c = Il m (fun _=>n) b c:=List.map_congr_left fun i hi=>by rw [hlen i (List.mem_range.1 hi)]
 have hr:((List.range m).map fun i=>(⟨b i,54,Bh (N i) (len i)⟩:HE)) = Ls m n b N:=List.map_congr_left fun i hi=>by rw [hlen i (List.mem_range.1 hi)]
 rw [CS,ht,hr] at h
 have hd:∀ k,k<m→(ET m n b c).getD k [] = [sX (b k) n (c k)]:=fun k hk=>by simp [ET,hk]
 refine WB (b:=b) (c:=c) (fun e he=>h e (List.mem_cons_of_mem _ he)) hc ((h _ List.mem_cons_self).sl rfl (by simp [ET]) h0 h0' (fun k hk=>by rw [hd k (by simpa [ET] using hk)];rfl) fun k j hk hj=>?_)
 have hk:k<m:=by simpa [ET] using hk
 obtain rfl:j = 0:=by omega
 rw [hd k hk,Nat.mul_one,Nat.add_zero]
 exact ⟨by show k<(Il m (fun _=>n) b c).length;rw [FM];exact hk,by simp [Il,BP,hk]⟩
theorem Xl {m b0:Nat} {len b c:Nat→Nat} {N:Nat→Nat→Rat}:∀ e∈CS m len b0 b c N,e.T∈Oy:=fun e he=>by
 rcases List.mem_cons.1 he with rfl | he
 ·exact List.mem_cons_self
 ·obtain ⟨i,_,rfl⟩:=List.mem_map.1 he
  exact List.mem_cons_of_mem _ List.mem_cons_self
section
variable {P : Program} {s0:An} {n:Nat} {Q:Exit→AS→Prop} {fr:List (Nat × AV)} {hp hp':List Ow}
theorem SD {c : Code} {T:Nat} {f:Nat→Rat} {len:Nat} {frf:Nat→Nat→List (Nat × AV)} {hpf:Nat→Nat→List Ow} (id:Nat) (hh:hp[id]? = some (.obj (JI T 4 (JK f len)))) (h0:0<len) (hf:∀ g c,DN id (sX g len c) fr = some (frf g c)) (hpl:PlainHp id hp) (hs:∀ g k,Db hp id (.obj (Ce [⟨g,T,Bh f len⟩] [k*4])) = some (hpf g k))
  (h:∀ g k,len≤k→k≤9223372036854775807→AWp P s0 n c Q ⟨frf g k,hpf g k⟩):AWp P s0 n c Q ⟨fr,hp⟩:=by
 have hl:=EG f len
 refine TP id hh (by omega) (fun g c=>by rw [hl];exact hf g c) hpl hs fun g k h1 h2=>h g k (by omega) h2
theorem VS {hp1 : List Ow} (hs1:DS hp (.obj (Bo [])) = some hp1) (hs:DS hp (.obj (Ce [] [])) = some hp'):AS.le ⟨fr,hp⟩ ⟨fr,hp'⟩:=by
 refine FG (VT hs1) ?_
 rw [Dd hs,Dd hs1]
 intro s0 n a w ⟨s,ρ,hw,hst⟩
 have hat:(hp ++ [Ow.obj (Bo [])])[hp.length]? = some (.obj (Bo [])):=by simp
 have := hst.swap (o' := .obj (Ce [] [])) hat ⟨hst.hp _ _ hat, fun i e z hi => by cases hi⟩ fun b hb => by
  obtain ⟨e,he,_⟩:=hb
  cases he
 rw [show (hp ++ [Ow.obj (Bo [])]).set hp.length (.obj (Ce [] [])) = hp ++ [.obj (Ce [] [])] by simp] at this
 exact ⟨s,ρ,hw,this⟩
end
theorem KV (n : Nat) (h0:0<n) (hn:n≤1000):Con Tryz.prog 26 [.d (ex (.int .i64 (n:Nat)))] [] [] (fun r hp'=>∃ g c,n≤c∧c≤9223372036854775807∧r = .d (sX g n c)∧hp' = [.dead,.obj (Ce [⟨g,54,Bh zR n⟩] [c*4])]):=by
 refine GY Tryz.func26 rfl (AG Tryz.func26 (by kernel_rfl) (by kernel_rfl)) rfl fun s0=>?_
 rw [Tryz.ntmps26]
 refine Y1<|Wa<|Y0<|Y1 ?_;refine EA (Ad rfl) (Ad rfl) rfl rfl rfl rfl rfl ?_;refine Wa<|Y0<|Ac<|Y1<|Wa<|Y0<|AWp.block ?_
 refine Ba (fun mz σ=>∃ k,k≤n∧mz = n - k∧σ = ⟨[(0,.d (ex (.int .i64 (n:Nat)))),(3,.own 1),(4,.d (ex (.int .i64 (k:Nat))))],[.pin [],.obj (JI 54 4 (JK zR k))]⟩) ?le ⟨0,by omega,rfl,rfl⟩ ?round
 case le =>
  refine FG (SM 1 rfl rfl) ?_
  exact Aq (by exact Yd<|FrLe.cons rfl (AVle.own rfl)<|Yd<|FrLe.nil) (by exact HpLe.cons (BV rfl)<|HpLe.cons (OwLe.obj rfl)<|HpLe.nil)
 case round =>
  rintro mz _ ⟨k,hk,rfl,rfl⟩
  by_cases hlt:k<n
  ·have hlk:=EG zR k
   refine Ac<|Y1<|Wm<|Wm ?_;refine Wq Am ?_;apply Y0;refine Ct ?_;refine Ys<|Ac<|AWp.block<|AWp.region<|Wm ?_;refine Wq (Ag (Bu 0 (by omega) (by omega))) ?_;refine Wq (By (ao rfl) (Ad rfl) (Ad rfl) rfl rfl rfl rfl rfl) ?_;(refine Ps (r2:=[BH ((0:Int):Rat)]) (ao rfl) rfl (Ol rfl) (by decide) rfl (Ad rfl) (Ad rfl) rfl rfl (by simp;omega) (by simp;omega) rfl (by first | ((repeat (first | exact PlainHp.nil | refine PlainHp.var ?_ | refine CX ?_ | refine PlainHp.dead ?_ | refine PlainHp.obj ?_ | refine PlainHp.pin rfl ?_ | refine CH rfl ?_));done) | fail) rfl ?_);refine Wa ?_;apply AWl.nil;apply Ai;refine Yn<|AWp.region<|Wm ?_;refine Wq AR ?_;refine Wa ?_;apply AWl.nil
   refine ALoop.next (n - (k+1)) (by omega) ⟨k+1,by omega,rfl,rfl⟩ ?_
   exact Aq (by exact Yd<|FrLe.cons rfl (AVle.own rfl)<|Yd<|FrLe.nil) (by exact HpLe.cons (BV rfl)<|HpLe.cons (OwLe.obj (by rw [← Nh]))<|HpLe.nil)
  ·obtain rfl : n = k := by omega
   refine SD 1 rfl h0 (fun g c=>rfl) (by first | ((repeat (first | exact PlainHp.nil | refine PlainHp.var ?_ | refine CX ?_ | refine PlainHp.dead ?_ | refine PlainHp.obj ?_ | refine PlainHp.pin rfl ?_ | refine CH rfl ?_));done) | fail) (fun g k=>rfl) fun g c hc1 hc2=>?_
   refine Ac<|Y1<|Wm<|Wm ?_;refine Wq Ak ?_;apply Y0;refine Cf ?_;apply AZ;apply AE;apply AM;apply AF;refine Yn<|Y1<|Wm<|Wa<|Y0 ?_;apply As
   refine FD (RetsA.one rfl) rfl ?_ rfl
   exact ⟨g,c,hc1,hc2,rfl,rfl⟩
def LE : List (Nat→Int):=[fun _=>0,Gi 0,Gi 1,fun i=>if i<2 then 1 else 0]
def lS (o : Nat):Nat→List (Nat→Int)
 | 0=>LE
 | k+1=>(lS o k).take (o % (lS o k).length) ++ (lS o k).drop (o % (lS o k).length+1)
def oS (o : Nat):Nat→List (Nat→Int)
 | 0=>[]
 | k+1=>oS o k ++ [(lS o k).getD (o % (lS o k).length) default]
theorem JQ (o : Nat):∀ k,k≤4→(lS o k).length = 4 - k
 | 0,_=>rfl
 | k+1,h=>by
  have ih:=JQ o k (by omega)
  have hm:o % (lS o k).length<(lS o k).length:=Nat.mod_lt _ (by omega)
  rw [lS,List.length_append,List.length_take,List.length_drop]
  omega
theorem Gq (o : Nat):∀ k,(oS o k).length = k
 | 0=>rfl
 | k+1=>by rw [oS,List.length_append,Gq o k];rfl
theorem RM (o : Nat):∀ k,∀ m∈lS o k,m∈LE
 | 0,m,h=>h
 | k+1,m,h=>by
  rw [lS] at h
  rcases List.mem_append.1 h with h | h
  ·exact RM o k m (List.mem_of_mem_take h)
  ·exact RM o k m (List.mem_of_mem_drop h)
theorem RF (o : Nat):∀ k,k≤4→∀ m∈oS o k,m∈LE
 | 0,_,m,h=>by cases h
 | k+1,hk,m,h=>by
  rw [oS] at h
  rcases List.mem_append.1 h with h | h
  ·exact RF o k (by omega) m h
  ·rw [List.mem_singleton.1 h]
   have hl:=JQ o k (by omega)
   have hm:o % (lS o k).length<(lS o k).length:=Nat.mod_lt _ (by omega)
   apply RM o k
   rw [List.getD_eq_getElem?_getD,List.getElem?_eq_getElem hm]
   exact List.getElem_mem _
theorem Xa : ∀ m∈LE,In8 m 0 1:=fun m hm=>by
 simp only [LE,List.mem_cons,List.not_mem_nil,or_false] at hm
 rcases hm with rfl | rfl | rfl | rfl
 ·exact fun i _=>⟨Int.le_refl _,Int.zero_le_ofNat 1⟩
 ·exact Ho
 ·exact Ho
 ·intro i _
  show 0≤(if i<2 then (1:Int) else 0)∧(if i<2 then (1:Int) else 0)≤1
  split <;> omega
theorem Lz (o k:Nat) (hk:k≤4):∀ m∈oS o k,In8 m 0 1:=fun m hm=>Xa m (RF o k hk m hm)
theorem Nq (o n:Nat) (ho:o<256) (hn:n≤4):Abs Tryz.prog 16 [ex (.int .u8 (o:Nat)),ex (.int .i64 (n:Nat))] (Jz (oS o n)):=by
 refine Ab Tryz.func16 fun s0=>?_
 rw [Tryz.ntmps16]
 refine Y1<|Wa<|Y0<|Y1 ?_;(refine Cz rfl rfl ?_;(refine FE (Ad rfl) (Ad rfl) rfl rfl ?_;(repeat ((first | refine ⟨_,AK (ao rfl),?_⟩ | refine ⟨_,Po rfl,?_⟩);refine ⟨_,rfl,?_⟩));refine ⟨_,rfl,?_⟩));(refine Cz rfl rfl ?_;(refine FE (Ad rfl) (Ad rfl) rfl rfl ?_;(repeat ((first | refine ⟨_,AK (ao rfl),?_⟩ | refine ⟨_,Po rfl,?_⟩);refine ⟨_,rfl,?_⟩));refine ⟨_,rfl,?_⟩));(refine Cz rfl rfl ?_;(refine FE (Ad rfl) (Ad rfl) rfl rfl ?_;(repeat ((first | refine ⟨_,AK (ao rfl),?_⟩ | refine ⟨_,Po rfl,?_⟩);refine ⟨_,rfl,?_⟩));refine ⟨_,rfl,?_⟩));(refine Cz rfl rfl ?_;(refine FE (Ad rfl) (Ad rfl) rfl rfl ?_;(repeat ((first | refine ⟨_,AK (ao rfl),?_⟩ | refine ⟨_,Po rfl,?_⟩);refine ⟨_,rfl,?_⟩));refine ⟨_,rfl,?_⟩));(refine Cz rfl rfl ?_;(refine CE (Ad rfl) (Ad rfl) rfl rfl rfl rfl rfl ?_;(repeat ((first | refine ⟨_,AK (ao rfl),?_⟩ | refine ⟨_,Po rfl,?_⟩);refine ⟨_,rfl,?_⟩));refine ⟨_,rfl,?_⟩));refine Wa<|Y0<|Y1 ?_;refine EA (Ad rfl) (Ad rfl) rfl rfl rfl rfl rfl ?_;refine Wa<|Y0<|Ac<|Y1<|Wa<|Y0<|AWp.block ?_
 refine Ba (fun mz σ=>∃ k,k≤n∧mz = n - k∧σ = ⟨[(0,.d (ex (.int .u8 (o:Nat)))),(1,.d (ex (.int .i64 (n:Nat)))),(5,.d (Jz (lS o k))),(6,.own 0),(7,.d (ex (.int .i64 (k:Nat))))],[.row 70 8 ((oS o k).map Cd)]⟩) ?le ⟨0,by omega,rfl,rfl⟩ ?round
 case le=>exact Aq (by exact Yd<|Yd<|Yd<|FrLe.cons rfl (AVle.own rfl)<|Yd<|FrLe.nil) (by exact Yr<|HpLe.nil)
 case round =>
  rintro mz _ ⟨k,hk,rfl,rfl⟩
  by_cases hlt:k<n
  ·have hl := JQ o k (by omega)
   have hol:=Gq o k
   have hm:o % (lS o k).length<(lS o k).length:=Nat.mod_lt _ (by omega)
   have hr0:(0:Int)≤(o:Int) % ((lS o k).length:Int):=Int.emod_nonneg _ (by omega)
   have hr1:(o:Int) % ((lS o k).length:Int)<((lS o k).length:Int):=Int.emod_lt_of_pos _ (by omega)
   refine Ac<|Y1<|Wm<|Wm ?_;refine Wq Am ?_;refine Wm ?_;refine Wg Af ?_;refine Wg Am ?_;refine Wq AP ?_;apply Y0;refine Ct ?_;refine Ys<|Ac<|AWp.block<|Y1<|Wm ?_;refine Wq BG ?_;refine Wm ?_;refine Wq AH ?_;refine Wq DC ?_;refine Wa<|Y0<|Y1<|Wm<|Wm<|Wm ?_;refine Wq (DK (k:=o % (lS o k).length) rfl (ao rfl) (Ad rfl) (Ad rfl) rfl hm) ?_;refine Wq AA ?_;refine Wq (By (ao rfl) (Ad rfl) (Ad rfl) rfl rfl rfl rfl rfl) ?_;(refine Ap ?_);refine Wa<|Y0 ?_
   refine AWp.any (by kernel_rfl) ?_
   refine FF 1 rfl rfl rfl (by kernel_rfl) (by kernel_rfl) (by kernel_rfl) rfl (PureQ.move rfl (ao rfl)) ?_
   refine FF 2 rfl rfl rfl (by kernel_rfl) (by kernel_rfl) (by kernel_rfl) rfl (PureQ.move rfl (ao rfl)) ?_
   refine FF 3 rfl rfl rfl (by kernel_rfl) (by kernel_rfl) (by kernel_rfl) rfl (QX (f:=Cd) (l:=lS o k) (i:=o % (lS o k).length) rfl rfl (ao rfl) (Ad rfl) (Ad rfl) rfl (Nat.le_of_lt hm)) ?_
   refine FF 5 rfl rfl rfl (by kernel_rfl) (by kernel_rfl) (by kernel_rfl) rfl (PureQ.move rfl (ao rfl)) ?_
   refine FF 6 rfl rfl rfl (by kernel_rfl) (by kernel_rfl) (by kernel_rfl) rfl (PureQ.move rfl (ao rfl)) ?_
   refine FF 7 rfl rfl rfl (by kernel_rfl) (by kernel_rfl) (by kernel_rfl) rfl (PureQ.add rfl (ao rfl) (ao rfl) (by omega) (by omega)) ?_
   refine FF 8 rfl rfl rfl (by kernel_rfl) (by kernel_rfl) (by kernel_rfl) rfl (QY (f:=Cd) (l:=lS o k) (i:=o % (lS o k).length+1) rfl rfl (ao rfl) (Ad rfl) (Ad rfl) rfl hm) ?_
   refine AWy.seq [0,4,9,10] (by kernel_rfl) (by kernel_rfl) rfl ?_
   refine EA (Ad rfl) (Ad rfl) rfl rfl rfl rfl rfl ?_;(refine Ap ?_);(refine Ap ?_);refine Wa ?_;apply AWl.nil;apply OnlyN.mk';apply Ai;refine Yn<|AWp.region<|Wm ?_;refine Wq AR ?_;refine Wa ?_;apply AWl.nil
   refine ALoop.next (n - (k+1)) (by omega) ⟨k+1,by omega,rfl,rfl⟩ ?_
   exact Aq (by refine Yd ?_;refine Yd ?_;(refine FrLe.cons rfl (Ik rfl (Bc (by rw [Jz,lS,List.map_append];rfl))) ?_);exact FrLe.cons rfl (AVle.own rfl)<|Yd<|FrLe.nil) (by (refine HpLe.cons (Cp (by rw [oS,List.map_append];rfl)) ?_);exact HpLe.nil)
  ·obtain rfl : n = k := by omega
   refine Ac<|Y1<|Wm<|Wm ?_;refine Wq Ak ?_;refine Wm ?_;refine Ws ?_;refine Ws ?_;refine Wq AD ?_;apply Y0;refine Cf ?_;apply AZ;apply AE;apply AM;apply AF;refine Yn<|Y1<|Wm<|Wa<|Y0 ?_;apply As
   exact Yf
abbrev xL : List Tm:=[⟨1,Gi 0⟩]
abbrev yL : List Tm:=[⟨1,Gi 1⟩]
abbrev Om : List Tm:=Dl (1:Int)
abbrev FI : List Tm:=Dl (-1:Int)
abbrev A0c : List Sq:=[⟨(2:Int),Fr⟩,⟨(-1:Int),yL⟩]
abbrev A04 : List Tm:=A0d (Er (2:Int) (EP Fr Fr)) (EP yL yL)
abbrev TQ : List Tm:=CW (EP xL xL) Om
theorem NY : PB xL 1 1 1:=WS Ho
theorem VX : PB yL 1 1 1:=WS Ho
theorem Jh : PB Om 1 1 1:=ND (DO (by omega) (by omega)) (by omega)
theorem Oo : PB FI 1 1 1:=ND (DO (by omega) (by omega)) (by omega)
theorem Je : PB Fr 2 3 1:=NY.add Jh
theorem Wt : SqB A0c 2 3 1 1:=fun s hs=>by
 rcases List.mem_cons.1 hs with rfl | hs
 ·exact ⟨Je,DO (by omega) (by omega)⟩
 ·rw [List.mem_singleton.1 hs]
  exact ⟨VX.mono (by omega) (by omega) (by omega),DO (by omega) (by omega)⟩
theorem Wb : Sim (Fp A0c) A04:=fun f hf=>by
 show Dm f (CW (CW [] (Er (2:Int) (EP Fr Fr))) (Er (-1:Int) (EP yL yL))) = Dm f (CW (Er (2:Int) (EP Fr Fr)) (neg (EP yL yL)))
 rw [EY,FS hf,FS hf,Tk,HL hf (-1:Int)]
 have:((-1:Int):Rat) = -1:=rfl
 rw [this]
 grind
theorem A03 : PB TQ 2 5 2:=((NY.mul NY (by omega) (by omega)).add Jh).mono (by omega) (by omega) (by omega)
theorem Tg {f : (Nat→Int)→Rat} (hf:IR f):Dm f (CW (Fp [⟨(1:Int),xL⟩]) (Hf [FI] [TQ] 1)) = -f fun _=>0:=by
 show Dm f (CW (CW [] (Er (1:Int) (EP xL xL))) (CW [] (EP FI TQ))) = _
 rw [EY,EY,FS hf,HL hf,Lx FI TQ f hf,LW,FI,Md]
 simp only [Dm,HW]
 rw [FS hf,Om,Fz]
 simp only [Dm]
 have:((1:Int):Rat) = 1:=rfl
 rw [this]
 grind
theorem A09 : SqB [⟨(1:Int),xL⟩] 1 1 1 1:=fun s hs=>by
 rw [List.mem_singleton.1 hs]
 exact ⟨NY,DO (by omega) (by omega)⟩
theorem A0q : ZB [FI] 1 1 1:=fun p hp=>by
 rw [List.mem_singleton.1 hp]
 exact Oo
theorem VY : ZB [TQ] 2 5 2:=fun p hp=>by
 rw [List.mem_singleton.1 hp]
 exact A03
theorem YN : Canon (CW (Fp [⟨(1:Int),xL⟩]) (Hf [FI] [TQ] 1)):=((JE A09 (by omega) 1 (Nat.le_refl 1)).add (KI A0q VY (by omega) (by omega) rfl 1 (Nat.le_refl 1))).can
theorem A1v : Es FI (CW (Fp [⟨(1:Int),xL⟩]) (Hf [FI] [TQ] [FI].length)) = 0:=HZ.2 (Fd Oo.can YN fun f hf=>by
 show Dm f FI = Dm f (CW (Fp [⟨(1:Int),xL⟩]) (Hf [FI] [TQ] 1))
 rw [Tg hf,FI,Md]
 simp only [Dm]
 grind)
theorem A1w : ¬ Es Om (CW (Fp [⟨(1:Int),xL⟩]) (Hf [FI] [TQ] [FI].length)) = 0:=fun h=>by
 have h1:=(HZ.1 h).sim (fun _=>1) (fun _ _ _=>rfl)
 rw [show [FI].length = 1 from rfl,Tg (fun _ _ _=>rfl),Om,Fz] at h1
 simp only [Dm] at h1
 grind
theorem WL : Abs Tryz.prog 40 [Bi FI,Io [⟨(1:Int),xL⟩],Yy [FI],Yy [TQ]] (ex (.bool true)):=by
 have:=Kf FI [⟨(1:Int),xL⟩] [FI] [TQ] 1 1 2 5 1 1 1 1 1 1 2 1 1 Oo A09 (by decide) (fun k hk=>by obtain rfl:k = 0:=(by simpa using hk);exact (by decide +kernel)) A0q VY rfl (by decide) (by omega) (by omega) (by omega) (by omega) (by omega) (by omega) (by omega) (by omega) (by omega) (by omega) (by omega) (by omega) (by omega)
 rwa [decide_eq_true A1v] at this
theorem WM : Abs Tryz.prog 40 [Bi Om,Io [⟨(1:Int),xL⟩],Yy [FI],Yy [TQ]] (ex (.bool false)):=by
 have:=Kf Om [⟨(1:Int),xL⟩] [FI] [TQ] 1 1 2 5 1 1 1 1 1 1 2 1 1 Jh A09 (by decide) (fun k hk=>by obtain rfl:k = 0:=(by simpa using hk);exact (by decide +kernel)) A0q VY rfl (by decide) (by omega) (by omega) (by omega) (by omega) (by omega) (by omega) (by omega) (by omega) (by omega) (by omega) (by omega) (by omega) (by omega)
 rwa [decide_eq_false A1w] at this
abbrev l28 : List Sq:=[⟨1,Fr⟩,⟨1,Om⟩]
abbrev k28 : List Sq:=[⟨(3:Int),Om⟩]
theorem A1x : ∀ k,k<l28.length→0≤(Og l28 k).a.num.sign:=KY (by decide +kernel) (by decide +kernel)
theorem Of : Abs Tryz.prog 7 [] (ex (.bool true)):=by
 have hpp:=Je.mul Je (by omega) (by omega)
 have hyy:=VX.mul VX (by omega) (by omega)
 have h2:RSz ((2:Int):Rat) 1:=DO (by omega) (by omega)
 have hsp:=HX hpp h2
 have cscale:=GV (2:Int) (EP Fr Fr) 1 14 h2 hpp.sz (hpp.ex.mono (Int.le_refl _) (by omega)) (Nat.le_trans hpp.len (by omega)) (by omega)
 have hsum:=JE Wt (by omega) 2 (Nat.le_refl 2)
 have csame:=NL hsum.can (hsp.sub hyy).can Wb
 refine Ab Tryz.func7 fun s0=>?_
 rw [Tryz.ntmps7]
 refine Y1<|Wa<|Y0<|Y1 ?_;refine Wq (Ag (XL 0 (by omega))) ?_;refine Wa<|Y0<|Y1 ?_;refine Wq (Ag (XL 1 (by omega))) ?_;refine Wa<|Y0<|Y1 ?_;refine Wq (Ag (HU 1 (by omega) (by omega))) ?_;refine Wa<|Y0<|Y1<|Wm<|Wm ?_;refine Wq (Ag (KP NY Jh (by omega) (by omega))) ?_;refine Wa<|Y0<|Y1 ?_;refine Wq (Ag (Bu 2 (by omega) (by omega))) ?_;refine Wm ?_;(refine Cz rfl rfl ?_;(refine BO (Ad rfl) rfl rfl rfl ?_;(repeat ((first | refine ⟨_,AK (ao rfl),?_⟩ | refine ⟨_,Po rfl,?_⟩);refine ⟨_,rfl,?_⟩));refine ⟨_,rfl,?_⟩));refine Wq (Ag (Bu (-1) (by omega) (by omega))) ?_;refine Wm ?_;(refine Cz rfl rfl ?_;(refine BO (Ad rfl) rfl rfl rfl ?_;(repeat ((first | refine ⟨_,AK (ao rfl),?_⟩ | refine ⟨_,Po rfl,?_⟩);refine ⟨_,rfl,?_⟩));refine ⟨_,rfl,?_⟩));(refine Cz rfl rfl ?_;(refine CE (Ad rfl) (Ad rfl) rfl rfl rfl rfl rfl ?_;(repeat ((first | refine ⟨_,AK (ao rfl),?_⟩ | refine ⟨_,Po rfl,?_⟩);refine ⟨_,rfl,?_⟩));refine ⟨_,rfl,?_⟩));refine Wq (Ag (Lp A0c 2 3 1 1 Wt (by omega) (by decide) (by omega) (by omega) (by omega) (by omega))) ?_;refine Wm ?_;refine Wq Bl ?_;refine Wq Bl ?_;refine Wa<|Wa<|Y0<|Y1 ?_;refine Wq (Ag (Bu 2 (by omega) (by omega))) ?_;refine Wm<|Wm ?_;refine Wq (Ag (OW Je Je (by omega) (by omega) (by omega) (by omega) (by omega) (by omega))) ?_;refine Wq (Ag (cscale)) ?_;refine Wm<|Wm ?_;refine Wq (Ag (OW VX VX (by omega) (by omega) (by omega) (by omega) (by omega) (by omega))) ?_;refine Wq (Ag (Zr hsp hyy (by omega) (by omega) (by omega))) ?_;refine Wa<|Y0<|Y1 ?_;(refine Cz rfl rfl ?_;(refine FE (Ad rfl) (Ad rfl) rfl rfl ?_;(repeat ((first | refine ⟨_,AK (ao rfl),?_⟩ | refine ⟨_,Po rfl,?_⟩);refine ⟨_,rfl,?_⟩));refine ⟨_,rfl,?_⟩));(refine Cz rfl rfl ?_;(refine FE (Ad rfl) (Ad rfl) rfl rfl ?_;(repeat ((first | refine ⟨_,AK (ao rfl),?_⟩ | refine ⟨_,Po rfl,?_⟩);refine ⟨_,rfl,?_⟩));refine ⟨_,rfl,?_⟩));(refine Cz rfl rfl ?_;(refine CE (Ad rfl) (Ad rfl) rfl rfl rfl rfl rfl ?_;(repeat ((first | refine ⟨_,AK (ao rfl),?_⟩ | refine ⟨_,Po rfl,?_⟩);refine ⟨_,rfl,?_⟩));refine ⟨_,rfl,?_⟩));refine Wa<|Y0<|Y1<|Wm ?_;refine Wq (Ag (Fv 1 1 1 2 (by omega) (by omega) (by omega) (by omega))) ?_;refine Wq (Ag (UT)) ?_;refine Wm ?_;refine Wq Bl ?_;refine Wq Bl ?_;refine Wa<|Wa<|Y0<|Y1<|Wm ?_;refine Wq (Ag (Fv 0 1 1 2 (by omega) (by omega) (by omega) (by omega))) ?_;refine Wq (Ag (UR)) ?_;refine Wm ?_;refine Wq Bl ?_;refine Wq Bl ?_;refine Wa<|Wa<|Y0<|Y1<|Wm ?_;refine Wq (Ag (Fv 1 2 2 1 (by omega) (by omega) (by omega) (by omega))) ?_;refine Wq (Ag (UQ)) ?_;refine Wm ?_;refine Wq Bl ?_;refine Wq Bl ?_;refine Wa<|Wa<|Y0<|Y1<|Wm ?_;refine Wq (Ag (Fv 0 0 0 3 (by omega) (by omega) (by omega) (by omega))) ?_;refine Wq (Ag (US)) ?_;refine Wm ?_;refine Wq Bl ?_;refine Wq Bl ?_;refine Wa<|Wa<|Y0<|Ac ?_
 refine Hc (En (e:=9) (by kernel_rfl) (K4 (K4 (AddE.keep (AddE.keep (AddE.add (AddE.keep AddE.nil)))))) (by kernel_rfl)) [[],[(77,0)],[],[],[(79,2),(80,3)],[(81,4)],[(78,1),(82,5)],[(83,6)],[(76,7)],[(76,7)]] [[],[0],[],[2],[2,3],[2,3,4],[0,1,2,3,4,5],[0,1,2,3,4,5,6],[0,1,2,3,4,5,6,7],[0,1,2,3,4,5,6,7]] rfl (by kernel_rfl) (by kernel_rfl) (by kernel_rfl) ?_
 refine Xq Af ?_;refine Xq (XT (f:=Cd) (l:=No) (i:=1) rfl (ah rfl) (Ad rfl) (Ad rfl) rfl (by decide)) ?_;refine Xq (Ag (Bu 1 (by omega) (by omega))) ?_;refine Xq (Ag (Bu 0 (by omega) (by omega))) ?_;(refine Hq rfl ?_;refine CE (Ad rfl) (Ad rfl) rfl rfl rfl rfl rfl ?_;(repeat ((first | refine ⟨_,AK (ah rfl),?_⟩ | refine ⟨_,Po rfl,?_⟩);refine ⟨_,rfl,?_⟩));refine ⟨_,rfl,?_⟩;refine ⟨_,rfl,?_⟩);(refine Hq rfl ?_;refine CE (Ad rfl) (Ad rfl) rfl rfl rfl rfl rfl ?_;(repeat ((first | refine ⟨_,AK (ah rfl),?_⟩ | refine ⟨_,Po rfl,?_⟩);refine ⟨_,rfl,?_⟩));refine ⟨_,rfl,?_⟩;refine ⟨_,rfl,?_⟩);refine Xq (Ag (UO)) ?_;refine Xq Af ?_;refine Xq Bl ?_;refine Xq Bl ?_;refine ⟨_,rfl,?_⟩
 refine Wa<|Wa ?_;apply AWl.nil;apply OnlyN.mk';refine Yn<|Y1<|Wm ?_;refine Wq (Ag (Fv 1 2 3 4 (by omega) (by omega) (by omega) (by omega))) ?_;refine Wq (Ag (UP)) ?_;refine Wm ?_;refine Wq Bl ?_;refine Wq Bl ?_;refine Wa<|Wa<|Y0<|Ac<|Y1<|Wm ?_;refine Wq Ak ?_;refine Wm ?_;refine Wg Af ?_;refine Wg Ak ?_;refine Wq AD ?_;refine Wm ?_;refine Wg Af ?_;refine Wg Ak ?_;refine Wq AD ?_;refine Wm ?_;refine Wg Af ?_;refine Wg Ak ?_;refine Wq AD ?_;refine Wm ?_;refine Wg Af ?_;refine Wg Ak ?_;refine Wq AD ?_;refine Wm ?_;refine Wg Af ?_;refine Wg Ak ?_;refine Wq AD ?_;refine Wm ?_;refine Wg Af ?_;refine Wg Ak ?_;refine Wq AD ?_;apply Y0;refine Cf ?_;refine Ys<|Y1<|Wm<|Wm ?_;refine Wq (Ag (OW NY NY (by omega) (by omega) (by omega) (by omega) (by omega) (by omega))) ?_;refine Wm ?_;refine Wq (Ag (KP (NY.mul NY (by omega) (by omega)) Jh (by omega) (by omega))) ?_;(refine Cz rfl rfl ?_;(refine CE (Ad rfl) (Ad rfl) rfl rfl rfl rfl rfl ?_;(repeat ((first | refine ⟨_,AK (ao rfl),?_⟩ | refine ⟨_,Po rfl,?_⟩);refine ⟨_,rfl,?_⟩));refine ⟨_,rfl,?_⟩));refine Wa<|Y0<|Y1 ?_;refine Wq (Ag (HU (-1) (by omega) (by omega))) ?_;refine Wq (Ag (Bu 1 (by omega) (by omega))) ?_;refine Wm ?_;(refine Cz rfl rfl ?_;(refine BO (Ad rfl) rfl rfl rfl ?_;(repeat ((first | refine ⟨_,AK (ao rfl),?_⟩ | refine ⟨_,Po rfl,?_⟩);refine ⟨_,rfl,?_⟩));refine ⟨_,rfl,?_⟩));refine Wq (By (ao rfl) (Ad rfl) (Ad rfl) rfl rfl rfl rfl rfl) ?_;refine Wq (Ag (HU (-1) (by omega) (by omega))) ?_;(refine Cz rfl rfl ?_;(refine CE (Ad rfl) (Ad rfl) rfl rfl rfl rfl rfl ?_;(repeat ((first | refine ⟨_,AK (ao rfl),?_⟩ | refine ⟨_,Po rfl,?_⟩);refine ⟨_,rfl,?_⟩));refine ⟨_,rfl,?_⟩));refine Wm ?_;refine Wq (Ag (WL)) ?_;refine Wm ?_;refine Wg (Ag (HU 1 (by omega) (by omega))) ?_;refine Wg (Ag (Bu 1 (by omega) (by omega))) ?_;refine Wg Af ?_;(refine HV rfl rfl rfl rfl rfl ?_;(refine BO (Ad rfl) rfl rfl rfl ?_;(repeat ((first | refine ⟨_,AK (ao rfl),?_⟩ | refine ⟨_,Po rfl,?_⟩);refine ⟨_,rfl,?_⟩));refine ⟨_,rfl,?_⟩));refine Wg (By (ao rfl) (Ad rfl) (Ad rfl) rfl rfl rfl rfl rfl) ?_;refine Wg (Ag (HU (-1) (by omega) (by omega))) ?_;(refine HV rfl rfl rfl rfl rfl ?_;(refine CE (Ad rfl) (Ad rfl) rfl rfl rfl rfl rfl ?_;(repeat ((first | refine ⟨_,AK (ao rfl),?_⟩ | refine ⟨_,Po rfl,?_⟩);refine ⟨_,rfl,?_⟩));refine ⟨_,rfl,?_⟩));refine Wg Af ?_;refine Wg (Ag (WM)) ?_;refine Wg Br ?_;refine Wq AP ?_;refine Wa<|Y0<|Y1<|Wm<|Wm ?_;refine Wg Af ?_;refine Wg Af ?_;refine Wg (Ag (csame)) ?_;refine Wq AP ?_;refine Wm ?_;refine Wg Af ?_;refine Wg (Ag (Bu 1 (by omega) (by omega))) ?_;refine Wg Af ?_;(refine HV rfl rfl rfl rfl rfl ?_;(refine BO (Ad rfl) rfl rfl rfl ?_;(repeat ((first | refine ⟨_,AK (ao rfl),?_⟩ | refine ⟨_,Po rfl,?_⟩);refine ⟨_,rfl,?_⟩));refine ⟨_,rfl,?_⟩));refine Wg (Ag (Bu 1 (by omega) (by omega))) ?_;refine Wg Af ?_;(refine HV rfl rfl rfl rfl rfl ?_;(refine BO (Ad rfl) rfl rfl rfl ?_;(repeat ((first | refine ⟨_,AK (ao rfl),?_⟩ | refine ⟨_,Po rfl,?_⟩);refine ⟨_,rfl,?_⟩));refine ⟨_,rfl,?_⟩));(refine HV rfl rfl rfl rfl rfl ?_;(refine CE (Ad rfl) (Ad rfl) rfl rfl rfl rfl rfl ?_;(repeat ((first | refine ⟨_,AK (ao rfl),?_⟩ | refine ⟨_,Po rfl,?_⟩);refine ⟨_,rfl,?_⟩));refine ⟨_,rfl,?_⟩));refine Wg (Ag (Mm l28 (by decide))) ?_;refine Wq AP ?_;refine Wm ?_;refine Wg Af ?_;refine Wg (Ag (Bu 3 (by omega) (by omega))) ?_;refine Wg Af ?_;(refine HV rfl rfl rfl rfl rfl ?_;(refine BO (Ad rfl) rfl rfl rfl ?_;(repeat ((first | refine ⟨_,AK (ao rfl),?_⟩ | refine ⟨_,Po rfl,?_⟩);refine ⟨_,rfl,?_⟩));refine ⟨_,rfl,?_⟩));refine Wg (By (ao rfl) (Ad rfl) (Ad rfl) rfl rfl rfl rfl rfl) ?_;refine Wg (Ag (Mm k28 (by decide))) ?_;refine Wq AP ?_;refine Wm ?_;refine Wg Af ?_;refine Wg (Ag (JH l28 (by decide) A1x)) ?_;refine Wq AP ?_;refine Wm ?_;refine Wg (Ag (Bu (-1) (by omega) (by omega))) ?_;refine Wg Af ?_;(refine HV rfl rfl rfl rfl rfl ?_;(refine BO (Ad rfl) rfl rfl rfl ?_;(repeat ((first | refine ⟨_,AK (ao rfl),?_⟩ | refine ⟨_,Po rfl,?_⟩);refine ⟨_,rfl,?_⟩));refine ⟨_,rfl,?_⟩));refine Wg (By (ao rfl) (Ad rfl) (Ad rfl) rfl rfl rfl rfl rfl) ?_;refine Wg (Ag (Ua [⟨(-1:Int),xL⟩] (by decide) 0 (by decide) (fun k h=>absurd h (Nat.not_lt_zero k)) (by decide +kernel))) ?_;refine Wg Br ?_;refine Wq AP ?_;refine Wa<|Y0 ?_;apply As
 exact Yf
end Go.Proofs.YtnhgojfjmhjokaaGreat
