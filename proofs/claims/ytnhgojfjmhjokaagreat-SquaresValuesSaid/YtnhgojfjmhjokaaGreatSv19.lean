/- Part 19 of the proof of squaresValues_holds. No condition. -/
import Derived.Scope
import Derived.Test.YtnhgojfjmhjokaaGreatSv17
import Derived.Test.YtnhgojfjmhjokaaGreatSv18
set_option linter.unusedSimpArgs false
set_option linter.unusedVariables false
set_option maxRecDepth 100000
set_option maxHeartbeats 8000000
namespace Go.Proofs.YtnhgojfjmhjokaaGreat
open Go.RowKit
def ANoM (Q : Exit→AS→Prop):Exit→AS→Prop
 | .goto _,_=>False
 | e,σ=>Q e σ
structure ANo (Q : Exit→AS→Prop) (e:Exit) (σ:AS):Prop where
 run:ANoM Q e σ
section
variable {P : Program} {s0:An} {n:Nat} {Q:Exit→AS→Prop} {σ:AS}
theorem AWp.scope {c : Code} (h:AWp P s0 n c (ANo Q) σ):AWp P s0 n (.scope c) Q σ:=⟨fun a w hs=>wp_scope_straight (wp_mono (h.run a w hs) fun e a' w' ⟨σ',⟨h1⟩,h2⟩=>by
 cases e with
 | goto l=>exact h1.elim
 | _=>exact ⟨σ',h1,h2⟩)⟩
theorem AWp.label {l : Nat} (h:Q .normal σ):AWp P s0 n (.label l) Q σ:=⟨fun _ _ hs=>wp_label ⟨σ,h,hs⟩⟩
theorem ANo.ret (h : Q .ret σ):ANo Q .ret σ:=⟨h⟩
end
theorem Div_abs (p q:Rat) (N M:Nat) (hp:RSz p N) (hq:RSz q M) (hN:N+M≤4398046511104) (h0:q.num ≠ 0):Abs Tryz.prog 94 [agD (ratC p),agD (ratC q)] (tupD [agD (ratC (p / q)),ex (.int .i64 0)]):=by
 refine Abs.of_old (callFunc_run Tryz.func94 (by kernel_rfl) (by kernel_rfl)) fun s vs hok hl hv=>?_
 rw [vs2 hl]
 obtain ⟨x0,x0',X0,X0',n0,c0,n0',c0',e0,h0'⟩:=ratC_open (hv 0 (by simp))
 obtain ⟨x1,x1',X1,X1',n1,c1,n1',c1',e1,h1⟩:=ratC_open (hv 1 (by simp))
 rw [e0,e1]
 exact (Div_any x0 x0' X0 X0' n0 c0 n0' c0' x1 x1' X1 X1' n1 c1 n1' c1' p q N M _ h0' h1 hp hq hN h0).mono fun e w' ⟨y,y',Y,Y',m,k,m',k',he,hI,hE⟩=>⟨_,he,hE,fun s' hw hok' _ _=>by subst hw;exact tup2 (ratC_mk hok' hI) rfl⟩
theorem Sub_abs (p q:Rat) (N M:Nat) (hp:RSz p N) (hq:RSz q M) (hN:N+M+1≤4398046511104):Abs Tryz.prog 95 [agD (ratC p),agD (ratC q)] (agD (ratC (p - q))):=by
 refine Abs.of_old (callFunc_run Tryz.func95 (by kernel_rfl) (by kernel_rfl)) fun s vs hok hl hv=>?_
 rw [vs2 hl]
 obtain ⟨x0,x0',X0,X0',n0,c0,n0',c0',e0,h0⟩:=ratC_open (hv 0 (by simp))
 obtain ⟨x1,x1',X1,X1',n1,c1,n1',c1',e1,h1⟩:=ratC_open (hv 1 (by simp))
 rw [e0,e1]
 exact (Sub_any x0 x0' X0 X0' n0 c0 n0' c0' x1 x1' X1 X1' n1 c1 n1' c1' p q N M _ h0 h1 hp hq hN).mono fun e w' ⟨y,y',Y,Y',m,k,m',k',he,hI,hE⟩=>⟨_,he,hE,fun s' hw hok' _ _=>by subst hw;exact ratC_mk hok' hI⟩
theorem RNegq_abs (p : Rat):Abs Tryz.prog 41 [agD (ratC p)] (agD (ratC (-p))):=by
 refine Abs.of_old (callFunc_run Tryz.func41 (by kernel_rfl) (by kernel_rfl)) fun s vs hok hl hv=>?_
 rw [vs1 hl]
 obtain ⟨x0,x0',X0,X0',n0,c0,n0',c0',e0,h0⟩:=ratC_open (hv 0 (by simp))
 rw [e0]
 exact (RNeg_any x0 x0' X0 X0' n0 c0 n0' c0' p _ h0).mono fun e w' ⟨y,y',Y,Y',m,k,m',k',he,hI,hE⟩=>⟨_,he,hE,fun s' hw hok' _ _=>by subst hw;exact ratC_mk hok' hI⟩
open Classical in
theorem rValidT_abs (q : Rat) (N:Nat) (h:RSz q N) (hN:N≤1000000000):Abs Tryz.prog 92 [agD (ratC q)] (ex (.bool true)):=by
 have hq:QOk (decide (q.num<0)) (digs q.num.natAbs) (decide ((q.den:Int)<0)) (digs (q.den:Int).natAbs):=⟨q,rfl,rfl,rfl,rfl⟩
 have:=rValid_abs (decide (q.num<0)) (digs q.num.natAbs) (decide ((q.den:Int)<0)) (digs (q.den:Int).natAbs) (small_digs _) (small_digs _) (Nat.le_trans h.1 hN) (Nat.le_trans h.2 hN)
 rw [decide_eq_true hq] at this
 exact this
structure Sq where
 a:Rat
 p:List Tm
instance : Inhabited Sq:=⟨⟨0,[]⟩⟩
def sqC (s : Sq):List D:=ratC s.a ++ [polD s.p]
def sqD (L : List Sq):D:=slD 56 5 (L.map sqC)
def sAt (L : List Sq) (k:Nat):Sq:=L.getD k default
theorem sAt_mem {L : List Sq} {k:Nat} (h:k<L.length):sAt L k∈L:=by
 unfold sAt
 rw [List.getD_eq_getElem?_getD,List.getElem?_eq_getElem h]
 exact List.getElem_mem _
theorem foldl_sAt {α : Type} (f:α→Sq→α) (b:α) {L:List Sq} {k:Nat} (h:k<L.length):(L.take (k+1)).foldl f b = f ((L.take k).foldl f b) (sAt L k):=by
 rw [List.take_succ_eq_append_getElem h,List.foldl_append]
 simp [sAt,List.getD_eq_getElem?_getD,List.getElem?_eq_getElem h]
def SqB (L : List Sq) (n N K:Nat) (d:Int):Prop:=∀ s∈L,PB s.p n N d∧RSz s.a K
theorem sValT_abs (L : List Sq) (hn:L.length≤100000) (h:∀ k,k<L.length→0≤(sAt L k).a.num.sign):Abs Tryz.prog 12 [sqD L] (ex (.bool true)):=by
 refine Ab Tryz.func12 fun s0=>?_
 rw [Tryz.ntmps12]
 apply Y1;refine Wa ?_;apply Y0;apply AWp.seq;apply Y1;refine Wm ?_;refine Wq Qz.lenN ?_;refine Wm ?_;apply Y0;apply AWp.block
 refine AWp.loop (fun mz σ=>∃ k,k≤L.length∧mz = L.length - k∧σ = ⟨[(5,.d (sqD L)),(6,.d (ex (.int .i64 (L.length:Nat)))),(7,.d (ex (.int .i64 (k:Nat))))],[]⟩) ?le ⟨0,by omega,rfl,rfl⟩ ?round
 case le=>exact AS.le_of (by refine Yd ?_;refine Yd ?_;refine Yd ?_;exact FrLe.nil) (by exact HpLe.nil)
 case round =>
  rintro mz _ ⟨k,hk,rfl,rfl⟩
  by_cases hlt:k<L.length
  ·have hk2:=h k hlt
   apply Y1;refine Wq Qz.cmpT ?_;apply Y0;apply AWp.seq;refine Ct ?_;apply Ys;apply AWp.seq;apply AWp.block;apply Y1;refine Wq Qz.indexN ?_;refine Wq Qz.loadEf ?_;refine Al ?_;refine Sf ?_;apply Y0;apply Y1;refine Wq Qz.fldP ?_;refine Wq Qz.ldD ?_;refine Wq (Qz.call (Sign_abs (sAt L k).a)) ?_;refine Wq Qz.cmpF ?_;apply Y0;refine Cf ?_;apply AWp.skip;apply ABlock.normal;apply Yn;apply AWp.region;refine Wq Qz.succ ?_;refine Wm ?_;apply AWl.nil
   refine ALoop.next (L.length - (k+1)) (by omega) ⟨k+1,by omega,rfl,rfl⟩ ?_
   exact AS.le_of (by refine Yd ?_;refine Yd ?_;refine Yd ?_;exact FrLe.nil) (by exact HpLe.nil)
  ·obtain rfl : k = L.length := by omega
   apply Y1;refine Wq Qz.cmpF ?_;apply Y0;apply AWp.seq;refine Cf ?_;apply AWp.exit;apply AThen.exit;apply ALoop.exit;apply ABlock.hit;apply Yn;apply Y1;refine Wa ?_;apply Y0;apply AWp.ret
   exact Yf
theorem sValF_abs (L : List Sq) (hn:L.length≤100000) (z:Nat) (hz:z<L.length) (h:∀ k,k<z→0≤(sAt L k).a.num.sign) (hneg:(sAt L z).a.num.sign<0):Abs Tryz.prog 12 [sqD L] (ex (.bool false)):=by
 refine Ab Tryz.func12 fun s0=>?_
 rw [Tryz.ntmps12]
 apply Y1;refine Wa ?_;apply Y0;apply AWp.seq;apply Y1;refine Wm ?_;refine Wq Qz.lenN ?_;refine Wm ?_;apply Y0;apply AWp.block
 refine AWp.loop (fun mz σ=>∃ k,k≤z∧mz = z - k∧σ = ⟨[(5,.d (sqD L)),(6,.d (ex (.int .i64 (L.length:Nat)))),(7,.d (ex (.int .i64 (k:Nat))))],[]⟩) ?le ⟨0,by omega,rfl,rfl⟩ ?round
 case le=>exact AS.le_of (by refine Yd ?_;refine Yd ?_;refine Yd ?_;exact FrLe.nil) (by exact HpLe.nil)
 case round =>
  rintro mz _ ⟨k,hk,rfl,rfl⟩
  by_cases hlt:k<z
  ·have hk2:=h k hlt
   apply Y1;refine Wq Qz.cmpT ?_;apply Y0;apply AWp.seq;refine Ct ?_;apply Ys;apply AWp.seq;apply AWp.block;apply Y1;refine Wq Qz.indexN ?_;refine Wq Qz.loadEf ?_;refine Al ?_;refine Sf ?_;apply Y0;apply Y1;refine Wq Qz.fldP ?_;refine Wq Qz.ldD ?_;refine Wq (Qz.call (Sign_abs (sAt L k).a)) ?_;refine Wq Qz.cmpF ?_;apply Y0;refine Cf ?_;apply AWp.skip;apply ABlock.normal;apply Yn;apply AWp.region;refine Wq Qz.succ ?_;refine Wm ?_;apply AWl.nil
   refine ALoop.next (z - (k+1)) (by omega) ⟨k+1,by omega,rfl,rfl⟩ ?_
   exact AS.le_of (by refine Yd ?_;refine Yd ?_;refine Yd ?_;exact FrLe.nil) (by exact HpLe.nil)
  ·obtain rfl : k = z := by omega
   apply Y1;refine Wq Qz.cmpT ?_;apply Y0;apply AWp.seq;refine Ct ?_;apply Ys;apply AWp.seq;apply AWp.block;apply Y1;refine Wq Qz.indexN ?_;refine Wq Qz.loadEf ?_;refine Al ?_;refine Sf ?_;apply Y0;apply Y1;refine Wq Qz.fldP ?_;refine Wq Qz.ldD ?_;refine Wq (Qz.call (Sign_abs (sAt L k).a)) ?_;refine Wq Qz.cmpT ?_;apply Y0;refine Ct ?_;apply Y1;refine Wa ?_;apply Y0;apply AWp.ret;apply ABlock.ret;apply AThen.ret;apply ALoop.ret;apply ABlock.ret;apply AThen.ret
   exact Yf
def sumF (S : List Tm) (s:Sq):List Tm:=mrg S (sclL s.a (pmul s.p s.p))
def sumL (L : List Sq):List Tm:=L.foldl sumF []
theorem sq_pb {s : Sq} {n N K:Nat} {d:Int} (h:PB s.p n N d) (hk:RSz s.a K) (h0:0≤d):PB (sclL s.a (pmul s.p s.p)) (n*n) (K+n*(N+N+1)) (d+d):=sclL_pb (h.mul h h0 h0) hk
theorem sum_pb {L : List Sq} {n N K:Nat} {d:Int} (h:SqB L n N K d) (h0:0≤d):∀ k,k≤L.length→PB (sumL (L.take k)) (k*(n*n)) (k*(K+n*(N+N+1)+1)) (d+d)
 | 0,_=>PB.nil
 | k+1,hk=>by
  have ih:=sum_pb h h0 k (by omega)
  have hs:=h _ (sAt_mem (show k<L.length by omega))
  have h1:=ih.add (sq_pb hs.1 hs.2 h0)
  have e:sumL (L.take (k+1)) = sumF (sumL (L.take k)) (sAt L k):=foldl_sAt sumF [] (by omega)
  rw [e]
  exact h1.mono (by rw [Nat.succ_mul];exact Nat.le_refl _) (by rw [Nat.succ_mul];omega) (by omega)
theorem sum_step {L : List Sq} {k:Nat} (h:k<L.length):sumL (L.take (k+1)) = sumF (sumL (L.take k)) (sAt L k):=foldl_sAt sumF [] h
theorem sum1_abs (S : List Tm) (s:Sq) (n N K n' N':Nat) (d d':Int) (hS:PB S n' N' d') (hp:PB s.p n N d) (ha:RSz s.a K) (h0:0≤d) (hd:d+d≤65535) (hn:n*n≤100000) (hn':n'+n*n≤100000) (hN:N+N+1≤10000000) (hK:n*(N+N+1)+K+N'+1≤4398046511103):Abs Tryz.prog 44 [polD S,agD (sqC s)] (tupD [polD (sumF S s),ex (.int .i64 0)]):=by
 have hm:=hp.mul hp h0 h0
 have hml:=hm.len
 have hsq:=sq_pb hp ha h0
 by_cases hz:s.a = 0
 ·have e : sumF S s = mrg S [] := by rw [sumF, sclL, if_pos hz]
  have hnil:PB ([]:List Tm) 0 0 0:=PB.nil
  refine Ab Tryz.func44 fun s0=>?_
  rw [Tryz.ntmps44]
  apply Y1;refine Bx ?_;refine Wa ?_;refine Wa ?_;apply Y0;apply Y1;refine Wq Qz.fldP ?_;refine Wq Qz.ldD1 ?_;refine Wq Qz.fldP ?_;refine Wq Qz.ldD1 ?_;refine Wq (Qz.call (PMul_pb hp hp h0 h0 hd hn hN)) ?_;refine Wm ?_;refine Wq Qz.ext ?_;refine Wq Qz.ext ?_;refine Wa ?_;refine Wa ?_;apply Y0;apply AWp.seq;apply Y1;refine Wm ?_;refine Wq Qz.cmpF ?_;apply Y0;refine Cf ?_;apply Ys;apply Y1;refine Wq Qz.fldP ?_;refine Wq Qz.ldD ?_;(refine AWs.q rfl rfl ?_;(refine Bq.arr (tab_of rfl) (tab_of rfl) rfl rfl ?_;(repeat ((first | refine ⟨_,PartOk.ag (ao rfl),?_⟩ | refine ⟨_,PartOk.one rfl (by first | exact One.ex_ rfl | exact One.sl | exact One.ep),?_⟩);refine ⟨_,rfl,?_⟩));refine ⟨_,rfl,?_⟩));refine Wm ?_;refine Wq (Qz.call (PTimes0_abs s.a (fun _=>0) (pmul s.p s.p) hz)) ?_;refine Wm ?_;refine Wq Qz.ext ?_;refine Wq Qz.ext ?_;refine Wa ?_;refine Wa ?_;apply Y0;apply Y1;refine Wm ?_;refine Wm ?_;refine Wq (Qz.call (PAdd_pb hS hnil (by omega) (by omega))) ?_;refine Wm ?_;refine Wa ?_;refine Wa ?_;apply Y0;apply AWp.ret
  exact Fin.ret (Rets.of2 (ResV.tmp rfl rfl) (ResV.tmp rfl rfl) (D.le.tup2 (D.le_pol e.symm) (D.le.refl _)))
 ·have e : sumF S s = mrg S (tms s.a (fun _ => 0) (pmul s.p s.p)) := by rw [sumF, sclL, if_neg hz]
  rw [sclL,if_neg hz] at hsq
  refine Ab Tryz.func44 fun s0=>?_
  rw [Tryz.ntmps44]
  apply Y1;refine Bx ?_;refine Wa ?_;refine Wa ?_;apply Y0;apply Y1;refine Wq Qz.fldP ?_;refine Wq Qz.ldD1 ?_;refine Wq Qz.fldP ?_;refine Wq Qz.ldD1 ?_;refine Wq (Qz.call (PMul_pb hp hp h0 h0 hd hn hN)) ?_;refine Wm ?_;refine Wq Qz.ext ?_;refine Wq Qz.ext ?_;refine Wa ?_;refine Wa ?_;apply Y0;apply AWp.seq;apply Y1;refine Wm ?_;refine Wq Qz.cmpF ?_;apply Y0;refine Cf ?_;apply Ys;apply Y1;refine Wq Qz.fldP ?_;refine Wq Qz.ldD ?_;(refine AWs.q rfl rfl ?_;(refine Bq.arr (tab_of rfl) (tab_of rfl) rfl rfl ?_;(repeat ((first | refine ⟨_,PartOk.ag (ao rfl),?_⟩ | refine ⟨_,PartOk.one rfl (by first | exact One.ex_ rfl | exact One.sl | exact One.ep),?_⟩);refine ⟨_,rfl,?_⟩));refine ⟨_,rfl,?_⟩));refine Wm ?_;refine Wq (Qz.call (PTimes_abs s.a (fun _=>0) (pmul s.p s.p) K (n*(N+N+1)) hz ha In8.zero hm.sz (hm.ex.mono (Int.le_refl _) hd) (fun t ht=>by rw [zero_add8];exact (hm.ex.mono (Int.le_refl _) hd) t ht) (by omega) (by omega))) ?_;refine Wm ?_;refine Wq Qz.ext ?_;refine Wq Qz.ext ?_;refine Wa ?_;refine Wa ?_;apply Y0;apply Y1;refine Wm ?_;refine Wm ?_;refine Wq (Qz.call (PAdd_pb hS hsq (by omega) (by omega))) ?_;refine Wm ?_;refine Wa ?_;refine Wa ?_;apply Y0;apply AWp.ret
  exact Fin.ret (Rets.of2 (ResV.tmp rfl rfl) (ResV.tmp rfl rfl) (D.le.tup2 (D.le_pol e.symm) (D.le.refl _)))
theorem foldS_abs (L : List Sq) (n N K:Nat) (d:Int) (h:SqB L n N K d) (h0:0≤d) (hL:L.length≤100) (hd:d+d≤65535) (hn:n≤30) (hN:N≤1000000) (hK:K≤1000000):Abs Tryz.prog 43 [sqD L,ex (.func (.func 44) #[] #[])] (tupD [polD (sumL L),ex (.int .i64 0)]):=by
 have hnn:n*n≤30*30:=Nat.mul_le_mul hn hn
 have hnN:n*(N+N+1)≤30*2000001:=Nat.mul_le_mul hn (by omega)
 refine Ab Tryz.func43 fun s0=>?_
 rw [Tryz.ntmps43]
 apply Y1;refine Wa ?_;refine Wa ?_;apply Y0;apply AWp.scope;apply Y1;refine Wa ?_;apply Y0;apply Y1;refine Wa ?_;apply Y0;apply AWp.seq;apply AWp.label;apply Yn;apply AWp.seq;apply Y1;refine Wm ?_;refine Wq Qz.lenN ?_;refine Wm ?_;apply Y0;apply AWp.block
 refine AWp.loop (fun mz σ=>∃ k,k≤L.length∧mz = L.length - k∧σ = ⟨[(1,.d (ex (.func (.func 44) #[] #[]))),(6,.d (polD (sumL (L.take k)))),(7,.d (ex (.int .i64 0))),(10,.d (sqD L)),(11,.d (ex (.int .i64 (L.length:Nat)))),(12,.d (ex (.int .i64 (k:Nat))))],[]⟩) ?le ⟨0,by omega,rfl,rfl⟩ ?round
 case le=>exact AS.le_of (by refine Yd ?_;refine FrLe.cons rfl (AVle.le D.le_nilP) ?_;refine Yd ?_;refine Yd ?_;refine Yd ?_;refine Yd ?_;exact FrLe.nil) (by exact HpLe.nil)
 case round =>
  rintro mz _ ⟨k,hk,rfl,rfl⟩
  by_cases hlt:k<L.length
  ·have hm:=sAt_mem hlt
   have hs:=h _ hm
   have hst:=sum_step hlt
   have hb:=sum_pb h h0 k (by omega)
   have hkn:k*(n*n)≤100*900:=Nat.mul_le_mul (by omega) (by omega)
   have hkN:k*(K+n*(N+N+1)+1)≤100*70000000:=Nat.mul_le_mul (by omega) (by omega)
   apply Y1;refine Wq Qz.cmpT ?_;apply Y0;apply AWp.seq;refine Ct ?_;apply Ys;apply AWp.seq;apply AWp.block;apply Y1;refine Wq Qz.indexN ?_;refine Wq Qz.loadEf ?_;refine Al ?_;refine Sf ?_;apply Y0;apply Y1;refine Wm ?_;refine Wm ?_;refine Wq Qz.ldD ?_;refine Wq (Qz.call (sum1_abs (sumL (L.take k)) (sAt L k) n N K (k*(n*n)) (k*(K+n*(N+N+1)+1)) d (d+d) hb hs.1 hs.2 h0 hd (by omega) (by omega) (by omega) (by omega))) ?_;refine Wm ?_;refine Wq Qz.ext ?_;refine Wq Qz.ext ?_;refine Wa ?_;refine Wa ?_;apply Y0;apply Y1;refine Wm ?_;refine Wq Qz.cmpF ?_;apply Y0;refine Cf ?_;apply AWp.skip;apply ABlock.normal;apply Yn;apply AWp.region;refine Wq Qz.succ ?_;refine Wm ?_;apply AWl.nil
   refine ALoop.next (L.length - (k+1)) (by omega) ⟨k+1,by omega,rfl,rfl⟩ ?_
   exact AS.le_of (by refine Yd ?_;refine FrLe.cons rfl (AVle.le (D.le_pol hst.symm)) ?_;refine Yd ?_;refine Yd ?_;refine Yd ?_;refine Yd ?_;exact FrLe.nil) (by exact HpLe.nil)
  ·obtain rfl : k = L.length := by omega
   apply Y1;refine Wq Qz.cmpF ?_;apply Y0;apply AWp.seq;refine Cf ?_;apply AWp.exit;apply AThen.exit;apply ALoop.exit;apply ABlock.hit;apply Yn;apply Y1;refine Wm ?_;refine Wm ?_;refine Wa ?_;refine Wa ?_;apply Y0;apply AWp.ret;apply ANo.ret
   exact Fin.ret (Rets.of2 (ResV.tmp rfl rfl) (ResV.tmp rfl rfl) (D.le.tup2 (D.le_pol (by rw [List.take_length])) (D.le.refl _)))
theorem sSum_abs (L : List Sq) (n N K:Nat) (d:Int) (h:SqB L n N K d) (h0:0≤d) (hL:L.length≤100) (hd:d+d≤65535) (hn:n≤30) (hN:N≤1000000) (hK:K≤1000000):Abs Tryz.prog 9 [sqD L] (tupD [polD (sumL L),ex (.int .i64 0)]):=by
 refine Ab Tryz.func9 fun s0=>?_
 rw [Tryz.ntmps9]
 apply Y1;refine Wa ?_;refine Wa ?_;apply Y0;apply Y1;refine Wm ?_;refine Wq (Qz.call (foldS_abs L n N K d h h0 hL hd hn hN hK)) ?_;refine Wq Qz.ext ?_;refine Wq Qz.ext ?_;refine Wa ?_;refine Wa ?_;apply Y0;apply AWp.ret
 exact Fin.ret (Rets.of2 (ResV.tmp rfl rfl) (ResV.tmp rfl rfl) (D.le.tup2 (D.le.refl _) (D.le.refl _)))
theorem RsSame_abs (L : List Sq) (hL:L.length≤100000):Abs Tryz.prog 19 [sqD L,sqD L] (ex (.bool true)):=by
 refine Ab Tryz.func19 fun s0=>?_
 rw [Tryz.ntmps19]
 apply Y1;refine Wa ?_;apply Y0;apply AWp.seq;apply Y1;refine Wm ?_;refine Wq Qz.lenN ?_;refine Wm ?_;refine Wq Qz.lenN ?_;refine Wq Qz.cmpF ?_;apply Y0;refine Cf ?_;apply Ys;apply AWp.seq;apply Y1;refine Wa ?_;apply Y0;apply AWp.block
 refine AWp.loop (fun mz σ=>∃ k,k≤L.length∧mz = L.length - k∧σ = ⟨[(0,.d (sqD L)),(1,.d (sqD L)),(5,.d (ex (.int .i64 (k:Nat))))],[]⟩) ?le ⟨0,by omega,rfl,rfl⟩ ?round
 case le=>exact AS.le_of (by refine Yd ?_;refine Yd ?_;refine Yd ?_;exact FrLe.nil) (by exact HpLe.nil)
 case round =>
  rintro mz _ ⟨k,hk,rfl,rfl⟩
  by_cases hlt:k<L.length
  ·apply AWp.seq;apply Y1;refine Wm ?_;refine Wm ?_;refine Wq Qz.lenN ?_;refine Wq Qz.cmpT ?_;apply Y0;refine Ct ?_;apply Ys;apply AWp.seq;apply AWp.block;apply AWp.seq
   refine AWp.dr' (DrawOk.self (by kernel_rfl)) [[],[],[(17,0),(18,1)],[(19,2)],[(20,3)],[],[],[(22,5),(23,6)],[(24,7)],[(25,8)],[(21,4),(26,9)],[(27,10)],[(28,11)],[],[],[(30,13),(31,14)],[(32,15)],[(33,16)],[],[],[(35,18),(36,19)],[(37,20)],[(38,21)],[(34,17),(39,22)],[(40,23)],[(29,12),(41,24)]] [[],[],[0,1],[0,1,2],[0,1,2,3],[],[],[5,6],[5,6,7],[5,6,7,8],[0,1,2,3,4,5,6,7,8,9],[0,1,2,3,4,5,6,7,8,9,10],[0,1,2,3,4,5,6,7,8,9,10,11],[0,1,2,3,4,5,6,7,8,9,10,11,12],[0,1,2,3,4,5,6,7,8,9,10,11,12],[0,1,2,3,4,5,6,7,8,9,10,11,12,13,14],[0,1,2,3,4,5,6,7,8,9,10,11,12,13,14,15],[0,1,2,3,4,5,6,7,8,9,10,11,12,13,14,15,16],[0,1,2,3,4,5,6,7,8,9,10,11,12],[0,1,2,3,4,5,6,7,8,9,10,11,12],[0,1,2,3,4,5,6,7,8,9,10,11,12,18,19],[0,1,2,3,4,5,6,7,8,9,10,11,12,18,19,20],[0,1,2,3,4,5,6,7,8,9,10,11,12,18,19,20,21],[0,1,2,3,4,5,6,7,8,9,10,11,12,13,14,15,16,17,18,19,20,21,22],[0,1,2,3,4,5,6,7,8,9,10,11,12,13,14,15,16,17,18,19,20,21,22,23],[0,1,2,3,4,5,6,7,8,9,10,11,12,13,14,15,16,17,18,19,20,21,22,23,24]] rfl (by kernel_rfl) (by kernel_rfl) (by kernel_rfl) ?_
   refine Xq Qz.move ?_;refine Xq Qz.move ?_;refine Xq Qz.indexN ?_;refine Xq Qz.fldE ?_;refine Xq Qz.ldE ?_;refine Xq Qz.move ?_;refine Xq Qz.move ?_;refine Xq Qz.indexN ?_;refine Xq Qz.fldE ?_;refine Xq Qz.ldE ?_;refine Xq (Qz.call (RSameQ_true (rfl:(sAt L k).a = (sAt L k).a))) ?_;refine Xq Qz.not ?_;refine Xq Qz.move ?_;refine Xg Qz.move ?_;refine Xg Qz.move ?_;refine Xg Qz.indexN ?_;refine Xg Qz.fldE ?_;refine Xg Qz.ldE1 ?_;refine Xg Qz.move ?_;refine Xg Qz.move ?_;refine Xg Qz.indexN ?_;refine Xg Qz.fldE ?_;refine Xg Qz.ldE1 ?_;refine Xg (Qz.call (RSame_true (SameL.refl (sAt L k).p))) ?_;refine Xg Qz.not ?_;refine Xq Qz.pickF ?_;refine ⟨_,rfl,?_⟩
   apply Y0;refine Cf ?_;apply AWp.skip;apply ABlock.normal;apply Yn;apply AWp.region;refine Wm ?_;refine Wq Qz.succ ?_;refine Wa ?_;apply AWl.nil
   refine ALoop.next (L.length - (k+1)) (by omega) ⟨k+1,by omega,rfl,rfl⟩ ?_
   exact AS.le_of (by refine Yd ?_;refine Yd ?_;refine Yd ?_;exact FrLe.nil) (by exact HpLe.nil)
  ·obtain rfl : k = L.length := by omega
   apply AWp.seq;apply Y1;refine Wm ?_;refine Wm ?_;refine Wq Qz.lenN ?_;refine Wq Qz.cmpF ?_;apply Y0;refine Cf ?_;apply AWp.exit;apply AThen.exit;apply ALoop.exit;apply ABlock.hit;apply Yn;apply Y1;refine Wa ?_;apply Y0;apply AWp.ret
   exact Yf
section
variable {P : Program} {s0:An} {n:Nat} {ops:Array Oper} {Q:Exit→AS→Prop} {rest:List Oper} {fr:List (Nat × AV)} {hp hp':List Ow} {ty:TypeId} {ps:String} {af:Array Edge}
theorem AWs.bxD {T : TypeId} {x:Operand} {y:D} {k t:Nat} (hx:AS.arg ⟨fr,hp⟩ x = .d y) (h1:One hp (.d y)) (hT:Nat.beq T 139 = false) (hd:Nat.blt t n = true) (hk:lenO hp = some k) (hs:snocO hp (.var T ([y].map .d)) = some hp') (h:AWl P s0 n ops Q rest ⟨(t,.ptr k 0) :: fr,hp'⟩):AWl P s0 n ops Q (⟨some t,.box T x,ty,ps,af,none⟩ :: rest) ⟨fr,hp⟩:=by
 obtain rfl:=lenO_eq hk
 rw [snocO_eq hs] at h
 refine AWl.step rfl fun s ρ a hst K hK=>?_
 have hx':=hst.arg x
 rw [hx] at hx'
 have h1':=h1 _ _ _ _ hst.hp hx'
 have hcs:(a.eval x).cells = #[a.eval x]:=by cases hv:a.eval x <;> first | rfl | (rw [hv] at h1';cases h1')
 have hrun:(execOp a.eval ⟨some t,.box T x,ty,ps,af,none⟩).run P s.w = .ok (.value (.pointer (some ⟨s.w.heap.size,0,none⟩))) (s.w.alloc (.cells #[a.eval x] T)):=by
  simp only [execOp,Instr.box,Sem.run_bind,run_newVar,Result.andThen_ok,Sem.run_pure,hcs]
 unfold Oper.wp
 rw [hrun]
 have hT':=Nat.ne_of_beq_eq_false hT
 refine hK _ _ _ h ⟨s.mk' #[a.eval x] T 0,_,rfl,hst.new (s.le_mk' _ T 0 hT') (dst:=some t) (fun d hd'=>by cases hd';simpa [Nat.blt_eq] using hd) (u:=.pointer (some ⟨s.w.heap.size,0,none⟩)) ⟨by simp,s.w.heap.size,by simp,rfl⟩ ?_ fun b hb=>by cases hb;exact Nat.le_refl _⟩
 refine ⟨s.w.heap.size,#[a.eval x],by simp,Nat.zero_le _,heap_alloc_new s.w _,by simp,hT',fun k hk=>absurd (hst.ok.lt _ _ hk) (Nat.lt_irrefl _),fun k av hk=>?_⟩
 cases k with
 | zero=>cases hk;exact ⟨a.eval x,by simp,h1',y.st hx' (s.le_mk' _ T 0 hT').chg⟩
 | succ k=>cases hk
end
def plD (l : List (List Tm)):D:=slD 31 1 (l.map fun p=>[polD p])
def pAt (l : List (List Tm)) (k:Nat):List Tm:=l.getD k default
theorem pAt_mem {l : List (List Tm)} {k:Nat} (h:k<l.length):pAt l k∈l:=by
 unfold pAt
 rw [List.getD_eq_getElem?_getD,List.getElem?_eq_getElem h]
 exact List.getElem_mem _
def PlB (l : List (List Tm)) (n N:Nat) (d:Int):Prop:=∀ p∈l,PB p n N d
def prodT (C l:List (List Tm)):Nat→List Tm
 | 0=>[]
 | k+1=>mrg (prodT C l k) (pmul (pAt C k) (pAt l k))
theorem prod_pb {C l:List (List Tm)} {n N n' N':Nat} {d d':Int} (hC:PlB C n N d) (hl:PlB l n' N' d') (h0:0≤d) (h0':0≤d') (hle:C.length = l.length):∀ k,k≤C.length→PB (prodT C l k) (k*(n*n')) (k*(n*(N+N'+1)+1)) (d+d')
 | 0,_=>PB.nil
 | k+1,hk=>by
  have h1:=(prod_pb hC hl h0 h0' hle k (by omega)).add ((hC _ (pAt_mem (show k<C.length by omega))).mul (hl _ (pAt_mem (show k<l.length by omega))) h0 h0')
  exact h1.mono (by rw [Nat.succ_mul];exact Nat.le_refl _) (by rw [Nat.succ_mul];omega) (by omega)
abbrev prvHt (l : List (List Tm)) (i:Nat) (z:List Ow):List Ow:=.var 84 ([plD l].map .d) :: .var 3 ([ex (.int .i64 (i:Nat))].map .d) :: z
abbrev prvH (l : List (List Tm)) (i:Nat):List Ow:=prvHt l i []
theorem proves1_con (S q:List Tm) (l:List (List Tm)) (i:Nat) (n N n' N' n2 N2:Nat) (d d' d2:Int) (hS:PB S n2 N2 d2) (hq:PB q n N d) (hl:PlB l n' N' d') (hi:i<l.length) (hll:l.length≤1000) (h0:0≤d) (h0':0≤d') (hd:d+d'≤65535) (hn:n*n'≤100000) (hn2:n2+n*n'≤100000) (hN:N+N'+1≤10000000) (hN2:N2+n*(N+N'+1)+1≤4398046511103) :
  Con Tryz.prog 81 [.d (polD S),.d (polD q),.ptr 0 0,.ptr 1 0] (prvH l i) [] (fun r hp'=>r = .d (tupD [polD (mrg S (pmul q (pAt l i))),ex (.int .i64 0)])∧hp' = prvHt l (i+1) [.dead]):=by
 have hli:=hl _ (pAt_mem hi)
 refine Con.intro2 Tryz.func81 rfl (callFunc_run Tryz.func81 (by kernel_rfl) (by kernel_rfl)) rfl fun s0 pv0 pv1=>?_
 rw [Tryz.ntmps81]
 apply Y1;refine Wa ?_;refine Wa ?_;apply Y0;apply Y1;refine Wm ?_;refine Wq Qz.ldD1 ?_;refine Wq Qz.ldD1 ?_;refine Wq Qz.indexN ?_;refine Wq Qz.ldE1 ?_;refine Wq (Qz.call (PMul_pb hq hli h0 h0' hd hn hN)) ?_;refine Wm ?_;refine Wq Qz.ext ?_;refine Wq Qz.ext ?_;refine Wa ?_;refine Wa ?_;apply Y0;apply Y1;refine Wq Qz.ldD1 ?_;refine Wq Qz.succ ?_;refine AWs.stD1 (ao rfl) (ao rfl) rfl (tab_of rfl) (by first | exact One.ex_ rfl | exact One.sl | exact One.ep) rfl rfl ?_;apply Y0;apply Y1;refine Wm ?_;refine Wm ?_;refine Wq (Qz.call (PAdd_pb hS (hq.mul hli h0 h0') hn2 (by omega))) ?_;refine Wm ?_;refine Wa ?_;refine Wa ?_;apply Y0;apply AWp.ret
 refine FinC.ret (RetsA.d (Rets.of2 (ResV.tmp rfl rfl) (ResV.tmp rfl rfl) (D.le.tup2 (D.le.refl _) (D.le.refl _)))) rfl ?_ rfl
 exact ⟨rfl,rfl⟩
theorem foldP_con (C l:List (List Tm)) (n N n' N':Nat) (d d':Int) (hC:PlB C n N d) (hl:PlB l n' N' d') (hle:C.length = l.length) (hll:C.length≤100) (h0:0≤d) (h0':0≤d') (hd:d+d'≤65535) (hn:n*n'≤900) (hN:n*(N+N'+1)≤100000000) (hN2:N+N'+1≤10000000) :
  Con Tryz.prog 80 [.d (plD C),.fn 81 [0,1]] (prvH l 0) [] (fun r hp'=>r = .d (tupD [polD (prodT C l C.length),ex (.int .i64 0)])∧hp' = prvHt l C.length [.dead]):=by
 refine Con.intro2 Tryz.func80 rfl (callFunc_run Tryz.func80 (by kernel_rfl) (by kernel_rfl)) rfl fun s0 pv0 pv1=>?_
 rw [Tryz.ntmps80]
 apply Y1;refine Wa ?_;refine Wa ?_;apply Y0;apply AWp.scope;apply Y1;refine Wa ?_;apply Y0;apply Y1;refine Wa ?_;apply Y0;apply AWp.seq;apply AWp.label;apply Yn;apply AWp.seq;apply Y1;refine Wm ?_;refine Wq Qz.lenN ?_;refine Wm ?_;apply Y0;apply AWp.block
 refine AWp.loop (fun mz σ=>∃ k,k≤C.length∧mz = C.length - k∧σ = ⟨[(1,.fn 81 [0,1]),(6,.d (polD (prodT C l k))),(7,.d (ex (.int .i64 0))),(10,.d (plD C)),(11,.d (ex (.int .i64 (C.length:Nat)))),(12,.d (ex (.int .i64 (k:Nat))))],[.var 84 ([plD l].map .d),.var 3 ([ex (.int .i64 (k:Nat))].map .d),.pin [(pv0,.own 0),(pv1,.own 1)]]⟩) ?le ⟨0,by omega,rfl,rfl⟩ ?round
 case le=>exact AS.le_of (by refine FrLe.cons rfl (AVle.fn rfl) ?_;refine FrLe.cons rfl (AVle.le D.le_nilP) ?_;refine Yd ?_;refine Yd ?_;refine Yd ?_;refine Yd ?_;exact FrLe.nil) (by apply Yv;apply Yv;refine HpLe.cons (OwLe.pinB rfl) ?_;exact HpLe.nil)
 case round =>
  rintro mz _ ⟨k,hk,rfl,rfl⟩
  by_cases hlt:k<C.length
  ·have hb := prod_pb hC hl h0 h0' hle k (by omega)
   have hkn:k*(n*n')≤100*900:=Nat.mul_le_mul (by omega) hn
   have hkN:k*(n*(N+N'+1)+1)≤100*100000001:=Nat.mul_le_mul (by omega) (by omega)
   apply Y1;refine Wq Qz.cmpT ?_;apply Y0;apply AWp.seq;refine Ct ?_;apply Ys;apply AWp.seq;apply AWp.block;apply Y1;refine Wq Qz.indexN ?_;refine Wq Qz.ldE1 ?_;refine Wa ?_;apply Y0;apply Y1;refine Wm ?_;refine Wm ?_;refine Wm ?_
   refine AWs.con [0,1] [0,1] (proves1_con (prodT C l k) (pAt C k) l k n N n' N' (k*(n*n')) (k*(n*(N+N'+1)+1)) d d' (d+d') hb (hC _ (pAt_mem hlt)) hl (by omega) (by omega) h0 h0' hd (by omega) (by omega) hN2 (by omega)) (by first | exact Or.inl rfl | exact Or.inr ⟨by decide,rfl,by repeat (first | exact AvoidR.nil | refine AvoidR.give rfl ?_ | refine AvoidR.dead ?_ | refine AvoidR.row ?_ | refine AvoidR.obj ?_ | refine AvoidR.varD ?_ | refine AvoidR.varA rfl ?_ | refine AvoidR.pin rfl ?_)⟩) rfl rfl (by first | exact .inl ⟨rfl,rfl⟩ | exact .inr ⟨rfl,rfl⟩) (by repeat (first | exact ArgsC.nil | refine ArgsC.d rfl (D.le.refl _) ?_ | refine ArgsC.av rfl rfl ?_)) (by decide) (by repeat (first | exact SelR.nil | refine SelR.var rfl ?_ | refine SelR.obj rfl ?_ | refine SelR.row rfl ?_ | refine SelR.varA rfl rfl rfl ?_)) (by repeat (first | exact trivial | refine ⟨⟨_,_,rfl⟩,?_⟩)) rfl ?_
   rintro _ _ ⟨rfl,rfl⟩
   refine ⟨_,_,_,(by first | exact AVRen.d | exact AVRen.own rfl | exact AVRen.ptr rfl | exact AVRen.fn rfl),(by repeat (first | exact SetR.nil | (apply SetR.cons;(first | exact OwRen.dead | exact OwRen.varD | exact OwRen.obj | exact OwRen.row | exact OwRen.varA rfl);exact rfl))),(by repeat (first | exact AppR.nil | (apply AppR.cons;(first | exact OwRen.dead | exact OwRen.varD | exact OwRen.obj | exact OwRen.row | exact OwRen.varA rfl);exact rfl))),?_⟩
   refine Wm ?_;refine Wq Qz.ext ?_;refine Wq Qz.ext ?_;refine Wa ?_;refine Wa ?_;apply Y0;apply Y1;refine Wm ?_;refine Wq Qz.cmpF ?_;apply Y0;refine Cf ?_;apply AWp.skip;apply ABlock.normal;apply Yn;apply AWp.region;refine Wq Qz.succ ?_;refine Wm ?_;apply AWl.nil
   refine ALoop.next (C.length - (k+1)) (by omega) ⟨k+1,by omega,rfl,rfl⟩ ?_
   exact AS.le_of (by refine FrLe.cons rfl (AVle.fn rfl) ?_;refine Yd ?_;refine Yd ?_;refine Yd ?_;refine Yd ?_;refine Yd ?_;exact FrLe.nil) (by refine HpLe.cons (OwLe.varB rfl) ?_;refine HpLe.cons (OwLe.varB rfl) ?_;refine HpLe.cons (OwLe.pinB rfl) ?_;exact HpLe.nil)
  ·obtain rfl : k = C.length := by omega
   apply Y1;refine Wq Qz.cmpF ?_;apply Y0;apply AWp.seq;refine Cf ?_;apply AWp.exit;apply AThen.exit;apply ALoop.exit;apply ABlock.hit;apply Yn;apply Y1;refine Wm ?_;refine Wm ?_;refine Wa ?_;refine Wa ?_;apply Y0;apply AWp.ret;apply ANo.ret
   refine FinC.ret (RetsA.d (Rets.of2 (ResV.tmp rfl rfl) (ResV.tmp rfl rfl) (D.le.tup2 (D.le.refl _) (D.le.refl _)))) rfl ?_ rfl
   exact ⟨rfl,rfl⟩
theorem sProves_abs (p : List Tm) (S:List Sq) (C l:List (List Tm)) (n N n' N' n2 N2 K np Np:Nat) (d d' d2 dp:Int) (hp:PB p np Np dp) (hS:SqB S n2 N2 K d2) (hSn:S.length≤100) (hpos:∀ k,k<S.length→0≤(sAt S k).a.num.sign) (hC:PlB C n N d) (hl:PlB l n' N' d') (hle:C.length = l.length) (hll:C.length≤100) (h0:0≤d) (h0':0≤d') (hd:d+d'≤65535) (hn:n*n'≤100) (hN:n*(N+N'+1)≤1000000) (hN2:N+N'+1≤1000000)
  (h02:0≤d2) (hd2:d2+d2≤65535) (hn2:n2≤10) (hN22:N2≤10000) (hK:K≤10000) (hnp:np≤100000) (hNp:Np≤1000000) :
  Abs Tryz.prog 40 [polD p,sqD S,plD C,plD l] (ex (.bool (decide (pcmp p (mrg (sumL S) (prodT C l C.length)) = 0)))):=by
 have hs:=sum_pb hS h02 S.length (Nat.le_refl _)
 rw [List.take_length] at hs
 have hpr:=prod_pb hC hl h0 h0' hle C.length (Nat.le_refl _)
 have e1:n2*n2≤10*10:=Nat.mul_le_mul hn2 hn2
 have e2:S.length*(n2*n2)≤100*100:=Nat.mul_le_mul hSn (by omega)
 have e3:n2*(N2+N2+1)≤10*20001:=Nat.mul_le_mul hn2 (by omega)
 have e4:S.length*(K+n2*(N2+N2+1)+1)≤100*300000:=Nat.mul_le_mul hSn (by omega)
 have e5:C.length*(n*n')≤100*100:=Nat.mul_le_mul hll hn
 have e6:C.length*(n*(N+N'+1)+1)≤100*1000001:=Nat.mul_le_mul hll (by omega)
 have hsum:=hs.add hpr
 have hsl:=hsum.len
 have hpl:=hp.len
 have csame:=PSame_abs p (mrg (sumL S) (prodT C l C.length)) (hp.sz.mono (by omega)) (hsum.sz.mono (by omega)) (by omega) (by omega)
 refine Ab Tryz.func40 fun s0=>?_
 rw [Tryz.ntmps40]
 apply Y1;refine AWs.bxD (ao rfl) One.sl rfl rfl rfl rfl ?_;refine Wa ?_;apply Y0;apply AWp.seq;apply Y1;refine Wm ?_;refine Wq (Qz.call (sValT_abs S (by omega) hpos)) ?_;refine Wq Qz.not ?_;refine Wm ?_;refine Wg Qz.move ?_;refine Wg Qz.lenN ?_;refine Wg Qz.ldD1 ?_;refine Wg Qz.lenN ?_;refine Wg Qz.cmpF ?_;refine Wq Qz.pickF ?_;apply Y0;refine Cf ?_;apply Ys;apply Y1;refine Wm ?_;refine Wq (Qz.call (sSum_abs S n2 N2 K d2 hS h02 hSn hd2 (by omega) (by omega) (by omega))) ?_;refine Wm ?_;refine Wq Qz.ext ?_;refine Wq Qz.ext ?_;refine Wa ?_;refine Wa ?_;apply Y0;apply AWp.seq;apply Y1;refine Wm ?_;refine Wq Qz.cmpF ?_;apply Y0;refine Cf ?_;apply Ys;apply Y1;refine Al ?_;refine AWs.stD1 (ao rfl) (ao rfl) rfl (tab_of rfl) (by first | exact One.ex_ rfl | exact One.sl | exact One.ep) rfl rfl ?_;apply Y0;apply Y1;refine Wm ?_;refine Wq (Qs.mkFn [0,1] rfl) ?_
 refine AWs.con [0,1] [] (foldP_con C l n N n' N' d d' hC hl hle hll h0 h0' hd (by omega) (by omega) (by omega)) (by first | exact Or.inl rfl | exact Or.inr ⟨by decide,rfl,by repeat (first | exact AvoidR.nil | refine AvoidR.give rfl ?_ | refine AvoidR.dead ?_ | refine AvoidR.row ?_ | refine AvoidR.obj ?_ | refine AvoidR.varD ?_ | refine AvoidR.varA rfl ?_ | refine AvoidR.pin rfl ?_)⟩) rfl rfl (by first | exact .inl ⟨rfl,rfl⟩ | exact .inr ⟨rfl,rfl⟩) (by repeat (first | exact ArgsC.nil | refine ArgsC.d rfl (D.le.refl _) ?_ | refine ArgsC.av rfl rfl ?_)) (by decide) (by repeat (first | exact SelR.nil | refine SelR.var rfl ?_ | refine SelR.obj rfl ?_ | refine SelR.row rfl ?_ | refine SelR.varA rfl rfl rfl ?_)) (by repeat (first | exact trivial | refine ⟨⟨_,_,rfl⟩,?_⟩)) rfl ?_
 rintro _ _ ⟨rfl,rfl⟩
 refine ⟨_,_,_,(by first | exact AVRen.d | exact AVRen.own rfl | exact AVRen.ptr rfl | exact AVRen.fn rfl),(by repeat (first | exact SetR.nil | (apply SetR.cons;(first | exact OwRen.dead | exact OwRen.varD | exact OwRen.obj | exact OwRen.row | exact OwRen.varA rfl);exact rfl))),(by repeat (first | exact AppR.nil | (apply AppR.cons;(first | exact OwRen.dead | exact OwRen.varD | exact OwRen.obj | exact OwRen.row | exact OwRen.varA rfl);exact rfl))),?_⟩
 refine Wm ?_;refine Wq Qz.ext ?_;refine Wq Qz.ext ?_;refine Wa ?_;refine Wa ?_;apply Y0;apply Y1;refine Wm ?_;refine Wq Qz.cmpT ?_;refine Wm ?_;refine Wg Qz.move ?_;refine Wg Qz.move ?_;refine Wg Qz.move ?_;refine Wg (Qz.call (PAdd_pb hs hpr (by omega) (by omega))) ?_;refine Wg (Qz.call (csame)) ?_;refine Wq Qz.pickT ?_;refine Wa ?_;apply Y0;apply AWp.ret
 exact Yf
def upX {α : Type} (r:Nat→α) (k:Nat) (u:α):Nat→α:=fun j=>if j = k then u else r j
def rowR (f : Nat→Rat) (c:Nat):D:=slD 54 4 ((List.range c).map fun j=>ratC (f j))
def matD (r c:Nat) (M:Nat→Nat→Rat):D:=slD 63 1 ((List.range r).map fun i=>[rowR (M i) c])
theorem range_getD {r k:Nat} (h:k<r):(List.range r).getD k default = k:=by
 rw [List.getD_eq_getElem?_getD,List.getElem?_range h];rfl
section
variable {P : Program} {hp:List Ow} {arg:Operand→AV} {dd:Option Tmp} {ty:TypeId} {ps:String} {af:Array Edge} {gd:Option (Nat × Bool)}
theorem Qs.indexR {x y:Operand} {t:TypeId} {e n b n' b' T sz r k:Nat} {d:TypeDesc} {z z':Value} {f:Nat→List D} {κ:IntKind} (hx:asD hp (arg x) = some (slD T sz ((List.range r).map f))) (hy:arg y = .d (ex (.int κ ((k:Nat):Int)))) (ht:Tab P t (.slice e) n b z) (he:Tab P e d n' b' z') (hsz:n' = sz) (hk:k<r):Quiet P hp ⟨dd,.indexAddr t x y,ty,ps,af,gd⟩ arg (.d (epD T (f k))):=by
 have:=Qs.indexN (dd:=dd) (ty:=ty) (ps:=ps) (af:=af) (gd:=gd) hx hy ht he hsz (by simpa using hk)
 rwa [range_getD hk] at this
theorem Qs.lenR {x : Operand} {t:TypeId} {e n b T sz r:Nat} {z:Value} {f:Nat→List D} (hx:asD hp (arg x) = some (slD T sz ((List.range r).map f))) (ht:Tab P t (.slice e) n b z):Quiet P hp ⟨dd,.call { callee:=.builtin .len,args:=#[x],argTypes:=#[t] },ty,ps,af,gd⟩ arg (.d (ex (.int .i64 (r:Nat)))):=by
 have:=Qs.lenN (dd:=dd) (ty:=ty) (ps:=ps) (af:=af) (gd:=gd) hx ht
 rwa [List.length_range] at this
end
def flatR (f : Nat→Rat) (n:Nat):List D:=((List.range n).map fun j=>ratC (f j)).flatten
theorem flatR_succ (f : Nat→Rat) (n:Nat):flatR f (n+1) = flatR f n ++ ratC (f n):=by
 simp [flatR,List.range_succ]
theorem flatR_length (f : Nat→Rat):∀ n,(flatR f n).length = n*4
 | 0=>rfl
 | n+1=>by rw [flatR_succ,List.length_append,flatR_length f n,ratC_length,Nat.succ_mul]
theorem flatR_at (f : Nat→Rat):∀ {n j q:Nat},j<n→q<4→(flatR f n)[j*4+q]? = (ratC (f j))[q]?
 | n+1,j,q,hj,hq=>by
  rw [flatR_succ]
  by_cases h:j<n
  ·rw [List.getElem?_append_left (by rw [flatR_length]; omega)]
   exact flatR_at f h hq
  ·obtain rfl : j = n := by omega
   rw [List.getElem?_append_right (by rw [flatR_length];omega),flatR_length]
   congr 1
   omega
theorem PartAt.flat {f : Nat→Rat} {n j:Nat} (hj:j<n):PartAt (flatR f n) (j*4) 4 (ratC (f j)):=by
 refine ⟨by rw [flatR_length];omega,?_⟩
 apply List.ext_getElem?
 intro q
 rw [List.getElem?_take]
 split
 ·rename_i hq
  rw [List.getElem?_drop]
  exact flatR_at f hj hq
 ·rename_i hq
  rw [List.getElem?_eq_none (by rw [ratC_length];omega)]
theorem SetAt.flat {f : Nat→Rat} {n j:Nat} {v:Rat} (hj:j<n):SetAt (flatR f n) (j*4) (ratC v) (flatR (upX f j v) n):=by
 have hl:∀ v:Rat,(ratC v).length = 4:=ratC_length
 have hle:j*4+(ratC v).length≤(flatR f n).length:=by rw [flatR_length,hl];omega
 refine ⟨hle,?_⟩
 apply List.ext_getElem?
 intro i
 by_cases hi:i<n*4
 ·have e1 : i = i / 4 * 4 + i % 4 := by omega
  have hlt:i / 4<n:=by omega
  have hm:i % 4<4:=by omega
  have e2:(flatR (upX f j v) n)[i]? = (ratC (upX f j v (i / 4)))[i % 4]? := by
   have:=flatR_at (upX f j v) hlt hm
   rwa [← e1] at this
  have e3:(flatR f n)[i]? = (ratC (f (i / 4)))[i % 4]? := by
   have:=flatR_at f hlt hm
   rwa [← e1] at this
  rw [e2]
  unfold spl
  have ht:((flatR f n).take (j*4)).length = j*4:=by rw [List.length_take,flatR_length];omega
  by_cases h1:i<j*4
  ·rw [List.getElem?_append_left (by omega),List.getElem?_take,if_pos h1,e3,upX,if_neg (by omega)]
  ·rw [List.getElem?_append_right (by omega), ht]
   by_cases h2:i<j*4+4
   ·rw [List.getElem?_append_left (by rw [hl]; omega), upX, if_pos (by omega)]
    congr 1
    omega
   ·rw [List.getElem?_append_right (by rw [hl]; omega), List.getElem?_drop, hl, upX, if_neg (by omega), ← e3]
    congr 1
    omega
 ·rw [List.getElem?_eq_none (by rw [spl_length hle,flatR_length];omega),List.getElem?_eq_none (by rw [flatR_length];omega)]
theorem flatR_congr {f g:Nat→Rat} {n:Nat} (h:∀ j,j<n→f j = g j):flatR f n = flatR g n:=by
 unfold flatR
 rw [List.map_congr_left fun j hj=>by rw [h j (List.mem_range.1 hj)]]
def gridP (b0 n m:Nat) (b c:Nat→Nat) (M:Nat→Nat→Rat):List HE :=
 ⟨b0,63,(List.range n).map fun i=>if i<m then sX (b i) n (c i) else ex (.slice none 0 0)⟩ :: (List.range m).map fun i=>⟨b i,54,flatR (M i) n⟩
theorem gridP_row {b0 n m i:Nat} {b c:Nat→Nat} {M:Nat→Nat→Rat} (h:i<m):(gridP b0 n m b c M)[i+1]? = some ⟨b i,54,flatR (M i) n⟩:=by
 simp [gridP,h]
theorem gridP_top {b0 n m:Nat} {b c:Nat→Nat} {M:Nat→Nat→Rat}:(gridP b0 n m b c M)[0]? = some ⟨b0,63,(List.range n).map fun i=>if i<m then sX (b i) n (c i) else ex (.slice none 0 0)⟩:=rfl
theorem gridP_cell {n m i:Nat} {b c:Nat→Nat} (h:i<m) (hm:m≤n):CellAt ((List.range n).map fun i=>if i<m then sX (b i) n (c i) else ex (.slice none 0 0)) (i*1) (sX (b i) n (c i)):=by
 rw [Nat.mul_one]
 refine ⟨by simp;omega,?_⟩
 have:i<n:=by omega
 simp [dAt,this,h]
theorem gridP_next {n m g cg:Nat} {b c:Nat→Nat} (h:m<n):SetAt ((List.range n).map fun i=>if i<m then sX (b i) n (c i) else ex (.slice none 0 0)) (m*1) [sX g n cg] ((List.range n).map fun i=>if i<m+1 then sX (upX b m g i) n (upX c m cg i) else ex (.slice none 0 0)):=by
 rw [Nat.mul_one]
 have hle:m+[sX g n cg].length≤((List.range n).map fun i=>if i<m then sX (b i) n (c i) else ex (.slice none 0 0)).length:=by simp;omega
 refine ⟨hle,?_⟩
 apply List.ext_getElem?
 intro i
 have hs:spl ((List.range n).map fun i=>if i<m then sX (b i) n (c i) else ex (.slice none 0 0)) m [sX g n cg] = ((List.range n).map fun i=>if i<m then sX (b i) n (c i) else ex (.slice none 0 0)).set m (sX g n cg):=by
  unfold spl
  rw [List.set_eq_take_append_cons_drop,if_pos (by simpa using h)]
  rfl
 rw [hs,List.getElem?_set]
 by_cases hi:i<n
 ·split
  ·rename_i e
   subst e
   simp [hi,upX]
  ·rename_i e
   simp only [List.getElem?_map,List.getElem?_range hi,Option.map_some,upX]
   have e':¬ i = m:=fun h=>e h.symm
   simp only [if_neg e']
   by_cases h1:i<m
   ·rw [if_pos h1,if_pos (by omega)]
   ·rw [if_neg h1,if_neg (by omega)]
 ·split
  ·omega
  ·rw [List.getElem?_eq_none (by simp;omega),List.getElem?_eq_none (by simp;omega)]
theorem gridP_snoc {b0 n m g cg:Nat} {b c:Nat→Nat} {M:Nat→Nat→Rat}:(gridP b0 n m b c M).set 0 ⟨b0,63,(List.range n).map fun i=>if i<m+1 then sX (upX b m g i) n (upX c m cg i) else ex (.slice none 0 0)⟩ ++ [⟨g,54,flatR (M m) n⟩] = gridP b0 n (m+1) (upX b m g) (upX c m cg) M:=by
 simp only [gridP,List.set_cons_zero,List.cons_append,List.range_succ (n:=m),List.map_append,List.map_cons,List.map_nil]
 congr 2
 ·apply List.map_congr_left
  intro i hi
  have:=List.mem_range.1 hi
  rw [upX,if_neg (by omega)]
 ·rw [upX,if_pos rfl]
def up2 (M : Nat→Nat→Rat) (i j:Nat) (v:Rat):Nat→Nat→Rat:=upX M i (upX (M i) j v)
theorem gridP_set {b0 n m i j:Nat} {b c:Nat→Nat} {M:Nat→Nat→Rat} {v:Rat} (h:i<m):(gridP b0 n m b c M).set (i+1) ⟨b i,54,flatR (upX (M i) j v) n⟩ = gridP b0 n m b c (up2 M i j v):=by
 simp only [gridP,List.set_cons_succ]
 congr 1
 apply List.ext_getElem?
 intro q
 rw [List.getElem?_set]
 by_cases hq:q<m
 ·split
  ·rename_i e
   subst e
   simp [hq,up2,upX]
  ·rename_i e
   simp only [List.getElem?_map,List.getElem?_range hq,Option.map_some,up2]
   rw [upX,if_neg (fun h=>e h.symm)]
 ·split
  ·omega
  ·rw [List.getElem?_eq_none (by simp;omega),List.getElem?_eq_none (by simp;omega)]
theorem gridP_congr {b0 n m:Nat} {b c:Nat→Nat} {M M':Nat→Nat→Rat} (h:∀ i,i<m→∀ j,j<n→M i j = M' i j):gridP b0 n m b c M = gridP b0 n m b c M':=by
 unfold gridP
 congr 1
 apply List.map_congr_left
 intro i hi
 rw [flatR_congr (h i (List.mem_range.1 hi))]
theorem mValid_abs (r c:Nat) (M:Nat→Nat→Rat) (N:Nat) (hM:∀ i j,RSz (M i j) N) (hN:N≤1000000000) (hr:r≤1000) (hc:c≤1000):Abs Tryz.prog 51 [matD r c M] (ex (.bool true)):=by
 refine Ab Tryz.func51 fun s0=>?_
 rw [Tryz.ntmps51]
 apply Y1;refine Wa ?_;apply Y0;apply AWp.seq;apply Y1;refine Wm ?_;refine Wq (Qs.lenR rfl (tab_of rfl)) ?_;refine Wm ?_;apply Y0;apply AWp.block
 refine AWp.loop (fun mz σ=>∃ k,k≤r∧mz = r - k∧σ = ⟨[(0,.d (matD r c M)),(7,.d (matD r c M)),(8,.d (ex (.int .i64 (r:Nat)))),(9,.d (ex (.int .i64 (k:Nat))))],[]⟩) ?le ⟨0,by omega,rfl,rfl⟩ ?round
 case le=>exact AS.le_of (by refine Yd ?_;refine Yd ?_;refine Yd ?_;refine Yd ?_;exact FrLe.nil) (by exact HpLe.nil)
 case round =>
  rintro mz _ ⟨k,hk,rfl,rfl⟩
  by_cases hlt:k<r
  ·apply AWp.seq; apply AWp.region; refine Wq Qz.cmpT ?_; apply AWl.nil; apply Yn; apply AWp.seq; refine Ct ?_; apply AWp.skip; apply Yn; apply AWp.seq; apply AWp.block; apply AWp.seq; apply AWp.region; refine Wq (Qs.indexR (k := k) rfl (ao rfl) (tab_of rfl) (tab_of rfl) rfl (by omega)) ?_; refine Wq Qz.ldE1 ?_; refine Wa ?_; apply AWl.nil; apply Yn; apply AWp.seq; apply AWp.seq; apply AWp.region; refine Wm ?_; refine Wq (Qs.lenR rfl (tab_of rfl)) ?_; refine Wm ?_; refine Wq (Qs.indexR (k := 0) rfl (ao rfl) (tab_of rfl) (tab_of rfl) rfl (by omega)) ?_; refine Wq Qz.ldE1 ?_; refine Wq (Qs.lenR rfl (tab_of rfl)) ?_; refine Wq Qz.cmpF ?_; apply AWl.nil; apply Yn; refine Cf ?_; apply AWp.skip; apply Yn; apply AWp.seq; apply AWp.region; refine Wm ?_; refine Wq (Qs.lenR rfl (tab_of rfl)) ?_; refine Wm ?_; apply AWl.nil; apply Yn; apply AWp.block
   refine AWp.loop (fun mz σ=>∃ i,i≤c∧mz = c - i∧σ = ⟨[(0,.d (matD r c M)),(7,.d (matD r c M)),(8,.d (ex (.int .i64 (r:Nat)))),(9,.d (ex (.int .i64 (k:Nat)))),(20,.d (rowR (M k) c)),(21,.d (ex (.int .i64 (c:Nat)))),(22,.d (ex (.int .i64 (i:Nat))))],[]⟩) ?lei ⟨0,by omega,rfl,rfl⟩ ?roundi
   case lei=>exact AS.le_of (by refine Yd ?_;refine Yd ?_;refine Yd ?_;refine Yd ?_;refine Yd ?_;refine Yd ?_;refine Yd ?_;exact FrLe.nil) (by exact HpLe.nil)
   case roundi =>
    rintro mz _ ⟨i,hi,rfl,rfl⟩
    by_cases hlti:i<c
    ·apply AWp.seq; apply AWp.region; refine Wq Qz.cmpT ?_; apply AWl.nil; apply Yn; apply AWp.seq; refine Ct ?_; apply AWp.skip; apply Yn; apply AWp.seq; apply AWp.block; apply AWp.seq; apply AWp.region; refine Wq (Qs.indexR (k := i) rfl (ao rfl) (tab_of rfl) (tab_of rfl) rfl (by omega)) ?_; refine Wq Qz.loadEf ?_; refine Al ?_; refine Sf ?_; apply AWl.nil; apply Yn; apply AWp.seq; apply AWp.region; refine Wq Qz.ldD ?_; refine Wq (Qz.call (rValidT_abs (M k i) N (hM k i) hN)) ?_; refine Wq Qz.not ?_; apply AWl.nil; apply Yn; refine Cf ?_; apply AWp.skip; apply ABlock.normal; apply Yn; apply AWp.region; refine Wq Qz.succ ?_; refine Wm ?_; apply AWl.nil
     refine ALoop.next (c - (i+1)) (by omega) ⟨i+1,by omega,rfl,rfl⟩ ?_
     exact AS.le_of (by refine Yd ?_;refine Yd ?_;refine Yd ?_;refine Yd ?_;refine Yd ?_;refine Yd ?_;refine Yd ?_;exact FrLe.nil) (by exact HpLe.nil)
    ·obtain rfl : i = c := by omega
     apply Y1;refine Wq Qz.cmpF ?_;apply Y0;apply AWp.seq;refine Cf ?_;apply AWp.exit;apply AThen.exit;apply ALoop.exit;apply ABlock.hit;apply ABlock.normal;apply Yn;apply AWp.region;refine Wq Qz.succ ?_;refine Wm ?_;apply AWl.nil
     refine ALoop.next (r - (k+1)) (by omega) ⟨k+1,by omega,rfl,rfl⟩ ?_
     exact AS.le_of (by refine Yd ?_;refine Yd ?_;refine Yd ?_;refine Yd ?_;exact FrLe.nil) (by exact HpLe.nil)
  ·obtain rfl : k = r := by omega
   apply Y1;refine Wq Qz.cmpF ?_;apply Y0;apply AWp.seq;refine Cf ?_;apply AWp.exit;apply AThen.exit;apply ALoop.exit;apply ABlock.hit;apply Yn;apply Y1;refine Wa ?_;apply Y0;apply AWp.ret
   exact Yf
theorem symT_abs (n : Nat) (M:Nat→Nat→Rat) (N:Nat) (hM:∀ i j,RSz (M i j) N) (hN:N≤1000000000) (hn:n≤1000) (h:∀ i,i<n→∀ j,j<i→M i j = M j i):Abs Tryz.prog 52 [matD n n M] (ex (.bool true)):=by
 refine Ab Tryz.func52 fun s0=>?_
 rw [Tryz.ntmps52]
 apply Y1;refine Wa ?_;apply Y0;apply AWp.seq;apply Y1;refine Wm ?_;refine Wq (Qs.lenR rfl (tab_of rfl)) ?_;refine Wm ?_;apply Y0;apply AWp.block
 refine AWp.loop (fun mz σ=>∃ k,k≤n∧mz = n - k∧σ = ⟨[(0,.d (matD n n M)),(6,.d (ex (.int .i64 (n:Nat)))),(7,.d (ex (.int .i64 (k:Nat))))],[]⟩) ?le ⟨0,by omega,rfl,rfl⟩ ?round
 case le=>exact AS.le_of (by refine Yd ?_;refine Yd ?_;refine Yd ?_;exact FrLe.nil) (by exact HpLe.nil)
 case round =>
  rintro mz _ ⟨k,hk,rfl,rfl⟩
  by_cases hlt:k<n
  ·apply Y1;refine Wq Qz.cmpT ?_;apply Y0;apply AWp.seq;refine Ct ?_;apply Ys;apply AWp.seq;apply AWp.block;apply Y1;refine Wm ?_;refine Wa ?_;apply Y0;apply Y1;refine Wm ?_;refine Wm ?_;apply Y0;apply AWp.block
   refine AWp.loop (fun mz σ=>∃ i,i≤k∧mz = k - i∧σ = ⟨[(0,.d (matD n n M)),(6,.d (ex (.int .i64 (n:Nat)))),(7,.d (ex (.int .i64 (k:Nat)))),(3,.d (ex (.int .i64 (k:Nat)))),(10,.d (ex (.int .i64 (k:Nat)))),(11,.d (ex (.int .i64 (i:Nat))))],[]⟩) ?lei ⟨0,by omega,rfl,rfl⟩ ?roundi
   case lei=>exact AS.le_of (by refine Yd ?_;refine Yd ?_;refine Yd ?_;refine Yd ?_;refine Yd ?_;refine Yd ?_;exact FrLe.nil) (by exact HpLe.nil)
   case roundi =>
    rintro mz _ ⟨i,hi,rfl,rfl⟩
    by_cases hlti:i<k
    ·have hq:qcmp (M k i) (M i k) = 0:=qcmp_zero.2 (h k hlt i hlti)
     have cc:=rCmp_abs (M k i) (M i k) ((hM k i).mono hN) ((hM i k).mono hN)
     rw [hq] at cc
     apply Y1;refine Wq Qz.cmpT ?_;apply Y0;apply AWp.seq;refine Ct ?_;apply Ys;apply AWp.seq;apply AWp.block;apply Y1;refine Wm ?_;refine Wa ?_;apply Y0;apply AWp.seq
     refine AWp.dr' (DrawOk.self (by kernel_rfl)) [[],[],[(14,0),(15,1)],[(16,2)],[],[(17,3),(18,4)],[(19,5)],[],[],[(21,7),(22,8)],[(23,9)],[],[(24,10),(25,11)],[(26,12)],[(20,6),(27,13)],[(28,14)]] [[],[],[0,1],[0,1,2],[],[0,1,2,3,4],[0,1,2,3,4,5],[],[],[7,8],[7,8,9],[],[7,8,9,10,11],[7,8,9,10,11,12],[0,1,2,3,4,5,6,7,8,9,10,11,12,13],[0,1,2,3,4,5,6,7,8,9,10,11,12,13,14]] rfl (by kernel_rfl) (by kernel_rfl) (by kernel_rfl) ?_
     refine Xq Qz.move ?_;refine Xq Qz.move ?_;refine Xq (Qs.indexR (k:=k) rfl (ah rfl) (tab_of rfl) (tab_of rfl) rfl (by omega)) ?_;refine Xq Qz.ldE1 ?_;refine Xq Qz.move ?_;refine Xq (Qs.indexR (k:=i) rfl (ah rfl) (tab_of rfl) (tab_of rfl) rfl (by omega)) ?_;refine Xq Qz.loadEf ?_;refine Xq Qz.move ?_;refine Xq Qz.move ?_;refine Xq (Qs.indexR (k:=i) rfl (ah rfl) (tab_of rfl) (tab_of rfl) rfl (by omega)) ?_;refine Xq Qz.ldE1 ?_;refine Xq Qz.move ?_;refine Xq (Qs.indexR (k:=k) rfl (ah rfl) (tab_of rfl) (tab_of rfl) rfl (by omega)) ?_;refine Xq Qz.loadEf ?_;refine Xq (Qz.call (cc)) ?_;refine Xq Qz.cmpF ?_;refine ⟨_,rfl,?_⟩
     apply Y0;refine Cf ?_;apply AWp.skip;apply ABlock.normal;apply Yn;apply AWp.region;refine Wq Qz.succ ?_;refine Wm ?_;apply AWl.nil
     refine ALoop.next (k - (i+1)) (by omega) ⟨i+1,by omega,rfl,rfl⟩ ?_
     exact AS.le_of (by refine Yd ?_;refine Yd ?_;refine Yd ?_;refine Yd ?_;refine Yd ?_;refine Yd ?_;exact FrLe.nil) (by exact HpLe.nil)
    ·obtain rfl : i = k := by omega
     apply Y1;refine Wq Qz.cmpF ?_;apply Y0;apply AWp.seq;refine Cf ?_;apply AWp.exit;apply AThen.exit;apply ALoop.exit;apply ABlock.hit;apply ABlock.normal;apply Yn;apply AWp.region;refine Wq Qz.succ ?_;refine Wm ?_;apply AWl.nil
     refine ALoop.next (n - (i+1)) (by omega) ⟨i+1,by omega,rfl,rfl⟩ ?_
     exact AS.le_of (by refine Yd ?_;refine Yd ?_;refine Yd ?_;exact FrLe.nil) (by exact HpLe.nil)
  ·obtain rfl : k = n := by omega
   apply Y1;refine Wq Qz.cmpF ?_;apply Y0;apply AWp.seq;refine Cf ?_;apply AWp.exit;apply AThen.exit;apply ALoop.exit;apply ABlock.hit;apply Yn;apply Y1;refine Wa ?_;apply Y0;apply AWp.ret
   exact Yf
theorem symF_abs (n : Nat) (M:Nat→Nat→Rat) (N:Nat) (hM:∀ i j,RSz (M i j) N) (hN:N≤1000000000) (hn:n≤1000) (z w:Nat) (hz:z<n) (hw:w<z) (h:∀ i,i<z→∀ j,j<i→M i j = M j i) (h':∀ j,j<w→M z j = M j z) (hbad:M z w ≠ M w z):Abs Tryz.prog 52 [matD n n M] (ex (.bool false)):=by
 refine Ab Tryz.func52 fun s0=>?_
 rw [Tryz.ntmps52]
 apply Y1;refine Wa ?_;apply Y0;apply AWp.seq;apply Y1;refine Wm ?_;refine Wq (Qs.lenR rfl (tab_of rfl)) ?_;refine Wm ?_;apply Y0;apply AWp.block
 refine AWp.loop (fun mz σ=>∃ k,k≤z∧mz = z - k∧σ = ⟨[(0,.d (matD n n M)),(6,.d (ex (.int .i64 (n:Nat)))),(7,.d (ex (.int .i64 (k:Nat))))],[]⟩) ?le ⟨0,by omega,rfl,rfl⟩ ?round
 case le=>exact AS.le_of (by refine Yd ?_;refine Yd ?_;refine Yd ?_;exact FrLe.nil) (by exact HpLe.nil)
 case round =>
  rintro mz _ ⟨k,hk,rfl,rfl⟩
  by_cases hlt:k<z
  ·apply Y1;refine Wq Qz.cmpT ?_;apply Y0;apply AWp.seq;refine Ct ?_;apply Ys;apply AWp.seq;apply AWp.block;apply Y1;refine Wm ?_;refine Wa ?_;apply Y0;apply Y1;refine Wm ?_;refine Wm ?_;apply Y0;apply AWp.block
   refine AWp.loop (fun mz σ=>∃ i,i≤k∧mz = k - i∧σ = ⟨[(0,.d (matD n n M)),(6,.d (ex (.int .i64 (n:Nat)))),(7,.d (ex (.int .i64 (k:Nat)))),(3,.d (ex (.int .i64 (k:Nat)))),(10,.d (ex (.int .i64 (k:Nat)))),(11,.d (ex (.int .i64 (i:Nat))))],[]⟩) ?lei ⟨0,by omega,rfl,rfl⟩ ?roundi
   case lei=>exact AS.le_of (by refine Yd ?_;refine Yd ?_;refine Yd ?_;refine Yd ?_;refine Yd ?_;refine Yd ?_;exact FrLe.nil) (by exact HpLe.nil)
   case roundi =>
    rintro mz _ ⟨i,hi,rfl,rfl⟩
    by_cases hlti:i<k
    ·have hq:qcmp (M k i) (M i k) = 0:=qcmp_zero.2 (h k hlt i hlti)
     have cc:=rCmp_abs (M k i) (M i k) ((hM k i).mono hN) ((hM i k).mono hN)
     rw [hq] at cc
     apply Y1;refine Wq Qz.cmpT ?_;apply Y0;apply AWp.seq;refine Ct ?_;apply Ys;apply AWp.seq;apply AWp.block;apply Y1;refine Wm ?_;refine Wa ?_;apply Y0;apply AWp.seq
     refine AWp.dr' (DrawOk.self (by kernel_rfl)) [[],[],[(14,0),(15,1)],[(16,2)],[],[(17,3),(18,4)],[(19,5)],[],[],[(21,7),(22,8)],[(23,9)],[],[(24,10),(25,11)],[(26,12)],[(20,6),(27,13)],[(28,14)]] [[],[],[0,1],[0,1,2],[],[0,1,2,3,4],[0,1,2,3,4,5],[],[],[7,8],[7,8,9],[],[7,8,9,10,11],[7,8,9,10,11,12],[0,1,2,3,4,5,6,7,8,9,10,11,12,13],[0,1,2,3,4,5,6,7,8,9,10,11,12,13,14]] rfl (by kernel_rfl) (by kernel_rfl) (by kernel_rfl) ?_
     refine Xq Qz.move ?_;refine Xq Qz.move ?_;refine Xq (Qs.indexR (k:=k) rfl (ah rfl) (tab_of rfl) (tab_of rfl) rfl (by omega)) ?_;refine Xq Qz.ldE1 ?_;refine Xq Qz.move ?_;refine Xq (Qs.indexR (k:=i) rfl (ah rfl) (tab_of rfl) (tab_of rfl) rfl (by omega)) ?_;refine Xq Qz.loadEf ?_;refine Xq Qz.move ?_;refine Xq Qz.move ?_;refine Xq (Qs.indexR (k:=i) rfl (ah rfl) (tab_of rfl) (tab_of rfl) rfl (by omega)) ?_;refine Xq Qz.ldE1 ?_;refine Xq Qz.move ?_;refine Xq (Qs.indexR (k:=k) rfl (ah rfl) (tab_of rfl) (tab_of rfl) rfl (by omega)) ?_;refine Xq Qz.loadEf ?_;refine Xq (Qz.call (cc)) ?_;refine Xq Qz.cmpF ?_;refine ⟨_,rfl,?_⟩
     apply Y0;refine Cf ?_;apply AWp.skip;apply ABlock.normal;apply Yn;apply AWp.region;refine Wq Qz.succ ?_;refine Wm ?_;apply AWl.nil
     refine ALoop.next (k - (i+1)) (by omega) ⟨i+1,by omega,rfl,rfl⟩ ?_
     exact AS.le_of (by refine Yd ?_;refine Yd ?_;refine Yd ?_;refine Yd ?_;refine Yd ?_;refine Yd ?_;exact FrLe.nil) (by exact HpLe.nil)
    ·obtain rfl : i = k := by omega
     apply Y1;refine Wq Qz.cmpF ?_;apply Y0;apply AWp.seq;refine Cf ?_;apply AWp.exit;apply AThen.exit;apply ALoop.exit;apply ABlock.hit;apply ABlock.normal;apply Yn;apply AWp.region;refine Wq Qz.succ ?_;refine Wm ?_;apply AWl.nil
     refine ALoop.next (z - (i+1)) (by omega) ⟨i+1,by omega,rfl,rfl⟩ ?_
     exact AS.le_of (by refine Yd ?_;refine Yd ?_;refine Yd ?_;exact FrLe.nil) (by exact HpLe.nil)
  ·obtain rfl : k = z := by omega
   apply Y1;refine Wq Qz.cmpT ?_;apply Y0;apply AWp.seq;refine Ct ?_;apply Ys;apply AWp.seq;apply AWp.block;apply Y1;refine Wm ?_;refine Wa ?_;apply Y0;apply Y1;refine Wm ?_;refine Wm ?_;apply Y0;apply AWp.block
   refine AWp.loop (fun mz σ=>∃ i,i≤w∧mz = w - i∧σ = ⟨[(0,.d (matD n n M)),(6,.d (ex (.int .i64 (n:Nat)))),(7,.d (ex (.int .i64 (k:Nat)))),(3,.d (ex (.int .i64 (k:Nat)))),(10,.d (ex (.int .i64 (k:Nat)))),(11,.d (ex (.int .i64 (i:Nat))))],[]⟩) ?lei ⟨0,by omega,rfl,rfl⟩ ?roundi
   case lei=>exact AS.le_of (by refine Yd ?_;refine Yd ?_;refine Yd ?_;refine Yd ?_;refine Yd ?_;refine Yd ?_;exact FrLe.nil) (by exact HpLe.nil)
   case roundi =>
    rintro mz _ ⟨i,hi,rfl,rfl⟩
    by_cases hlti:i<w
    ·have hq:qcmp (M k i) (M i k) = 0:=qcmp_zero.2 (h' i hlti)
     have cc:=rCmp_abs (M k i) (M i k) ((hM k i).mono hN) ((hM i k).mono hN)
     rw [hq] at cc
     apply Y1;refine Wq Qz.cmpT ?_;apply Y0;apply AWp.seq;refine Ct ?_;apply Ys;apply AWp.seq;apply AWp.block;apply Y1;refine Wm ?_;refine Wa ?_;apply Y0;apply AWp.seq
     refine AWp.dr' (DrawOk.self (by kernel_rfl)) [[],[],[(14,0),(15,1)],[(16,2)],[],[(17,3),(18,4)],[(19,5)],[],[],[(21,7),(22,8)],[(23,9)],[],[(24,10),(25,11)],[(26,12)],[(20,6),(27,13)],[(28,14)]] [[],[],[0,1],[0,1,2],[],[0,1,2,3,4],[0,1,2,3,4,5],[],[],[7,8],[7,8,9],[],[7,8,9,10,11],[7,8,9,10,11,12],[0,1,2,3,4,5,6,7,8,9,10,11,12,13],[0,1,2,3,4,5,6,7,8,9,10,11,12,13,14]] rfl (by kernel_rfl) (by kernel_rfl) (by kernel_rfl) ?_
     refine Xq Qz.move ?_;refine Xq Qz.move ?_;refine Xq (Qs.indexR (k:=k) rfl (ah rfl) (tab_of rfl) (tab_of rfl) rfl (by omega)) ?_;refine Xq Qz.ldE1 ?_;refine Xq Qz.move ?_;refine Xq (Qs.indexR (k:=i) rfl (ah rfl) (tab_of rfl) (tab_of rfl) rfl (by omega)) ?_;refine Xq Qz.loadEf ?_;refine Xq Qz.move ?_;refine Xq Qz.move ?_;refine Xq (Qs.indexR (k:=i) rfl (ah rfl) (tab_of rfl) (tab_of rfl) rfl (by omega)) ?_;refine Xq Qz.ldE1 ?_;refine Xq Qz.move ?_;refine Xq (Qs.indexR (k:=k) rfl (ah rfl) (tab_of rfl) (tab_of rfl) rfl (by omega)) ?_;refine Xq Qz.loadEf ?_;refine Xq (Qz.call (cc)) ?_;refine Xq Qz.cmpF ?_;refine ⟨_,rfl,?_⟩
     apply Y0;refine Cf ?_;apply AWp.skip;apply ABlock.normal;apply Yn;apply AWp.region;refine Wq Qz.succ ?_;refine Wm ?_;apply AWl.nil
     refine ALoop.next (w - (i+1)) (by omega) ⟨i+1,by omega,rfl,rfl⟩ ?_
     exact AS.le_of (by refine Yd ?_;refine Yd ?_;refine Yd ?_;refine Yd ?_;refine Yd ?_;refine Yd ?_;exact FrLe.nil) (by exact HpLe.nil)
    ·obtain rfl : i = w := by omega
     have hq:qcmp (M k i) (M i k) ≠ 0:=fun e=>hbad (qcmp_zero.1 e)
     have cc:=rCmp_abs (M k i) (M i k) ((hM k i).mono hN) ((hM i k).mono hN)
     generalize qcmp (M k i) (M i k) = u at hq cc
     apply Y1;refine Wq Qz.cmpT ?_;apply Y0;apply AWp.seq;refine Ct ?_;apply Ys;apply AWp.seq;apply AWp.block;apply Y1;refine Wm ?_;refine Wa ?_;apply Y0;apply AWp.seq
     refine AWp.dr' (DrawOk.self (by kernel_rfl)) [[],[],[(14,0),(15,1)],[(16,2)],[],[(17,3),(18,4)],[(19,5)],[],[],[(21,7),(22,8)],[(23,9)],[],[(24,10),(25,11)],[(26,12)],[(20,6),(27,13)],[(28,14)]] [[],[],[0,1],[0,1,2],[],[0,1,2,3,4],[0,1,2,3,4,5],[],[],[7,8],[7,8,9],[],[7,8,9,10,11],[7,8,9,10,11,12],[0,1,2,3,4,5,6,7,8,9,10,11,12,13],[0,1,2,3,4,5,6,7,8,9,10,11,12,13,14]] rfl (by kernel_rfl) (by kernel_rfl) (by kernel_rfl) ?_
     refine Xq Qz.move ?_;refine Xq Qz.move ?_;refine Xq (Qs.indexR (k:=k) rfl (ah rfl) (tab_of rfl) (tab_of rfl) rfl (by omega)) ?_;refine Xq Qz.ldE1 ?_;refine Xq Qz.move ?_;refine Xq (Qs.indexR (k:=i) rfl (ah rfl) (tab_of rfl) (tab_of rfl) rfl (by omega)) ?_;refine Xq Qz.loadEf ?_;refine Xq Qz.move ?_;refine Xq Qz.move ?_;refine Xq (Qs.indexR (k:=i) rfl (ah rfl) (tab_of rfl) (tab_of rfl) rfl (by omega)) ?_;refine Xq Qz.ldE1 ?_;refine Xq Qz.move ?_;refine Xq (Qs.indexR (k:=k) rfl (ah rfl) (tab_of rfl) (tab_of rfl) rfl (by omega)) ?_;refine Xq Qz.loadEf ?_;refine Xq (Qz.call (cc)) ?_;refine Xq Qz.cmpT ?_;refine ⟨_,rfl,?_⟩
     apply Y0;refine Ct ?_;apply Y1;refine Wa ?_;apply Y0;apply AWp.ret;apply ABlock.ret;apply AThen.ret;apply ALoop.ret;apply ABlock.ret;apply ABlock.ret;apply AThen.ret;apply ALoop.ret;apply ABlock.ret;apply AThen.ret
     exact Yf
def mmD (ms : List (Nat→Int)):D:=slD 70 8 (ms.map monC)
def sqR (ms : List (Nat→Int)) (row:Nat→Rat) (d:Rat):Nat→List Tm
 | 0=>[]
 | j+1=>if row j = 0 then sqR ms row d j else mrg (sqR ms row d j) [⟨row j / d,ms.getD j default⟩]
theorem rat_div_ne {a b:Rat} (ha:a ≠ 0) (hb:b ≠ 0):a / b ≠ 0:=fun e=>ha (by
 have:a / b*b = a:=by rw [Rat.div_def,Rat.mul_assoc,Rat.inv_mul_cancel _ hb,Rat.mul_one]
 rw [e,Rat.zero_mul] at this
 exact this.symm)
theorem rat_num_ne {a : Rat} (h:a ≠ 0):a.num ≠ 0:=fun e=>h (Rat.num_eq_zero.1 e)
theorem RSz.divQ {p q:Rat} {N M:Nat} (hp:RSz p N) (hq:RSz q M) (h:q ≠ 0):RSz (p / q) (N+M):=by
 rw [Rat.div_def];exact hp.mul (hq.inv (rat_num_ne h))
theorem RSz.subQ {p q:Rat} {N M:Nat} (hp:RSz p N) (hq:RSz q M):RSz (p - q) (N+M+1):=by
 rw [Rat.sub_eq_add_neg];exact hp.add hq.neg
theorem sqR_pb {ms : List (Nat→Int)} {row:Nat→Rat} {d:Rat} {S:Nat} {e:Int} (hm:∀ m∈ms,In8 m 0 e) (hr:∀ j,RSz (row j) S) (hd:RSz d S) (h0:d ≠ 0):∀ j,j≤ms.length→PB (sqR ms row d j) j (j*(S+S+1)) e
 | 0,_=>PB.nil
 | j+1,hj=>by
  have ih:=sqR_pb hm hr hd h0 j (by omega)
  rw [sqR]
  split
  ·exact ih.mono (by omega) (Nat.mul_le_mul_right _ (by omega)) (Int.le_refl _)
  ·rename_i hz
   have hmj:ms.getD j default∈ms:=by
    rw [List.getD_eq_getElem?_getD,List.getElem?_eq_getElem (by omega)]
    exact List.getElem_mem _
   have h1:PB [⟨row j / d,ms.getD j default⟩] 1 (S+S) e:=PB.single (rat_div_ne hz h0) ((hr j).divQ hd h0) (hm _ hmj)
   exact (ih.add h1).mono (Nat.le_refl _) (by rw [Nat.succ_mul];omega) (by omega)
theorem square_con (ms : List (Nat→Int)) (row:Nat→Rat) (d:Rat) (n S:Nat) (e:Int) (hn:ms.length = n) (hn1:n≤100) (hm:∀ m∈ms,In8 m 0 e) (he:e≤65535) (hr:∀ j,RSz (row j) S) (hd:RSz d S) (h0:d ≠ 0) (hS:S≤10000000) (L:List HE) (i b c:Nat) (hi:L[i]? = some ⟨b,54,flatR row n⟩) :
  Con Tryz.prog 53 [.d (mmD ms),.d (sX b n c),.d (agD (ratC d))] [.obj (heapO L)] [] (fun r hp'=>r = .d (agD (sqC ⟨d,sqR ms row d n⟩))∧∃ (T1 T2:TypeId) (c1 c2:List D),hp' = [.obj (heapO L),.dead,.var T1 (c1.map .d),.var T2 (c2.map .d)]):=by
 refine Con.intro1 Tryz.func53 rfl (callFunc_run Tryz.func53 (by kernel_rfl) (by kernel_rfl)) rfl fun s0 pv0=>?_
 rw [Tryz.ntmps53]
 apply Y1;refine Bx ?_;refine Al ?_;apply Y0;apply Y1;refine Wa ?_;apply Y0;apply AWp.seq;apply Y1;refine Wm ?_;refine Wq (Qs.lenX (ao rfl) (tab_of rfl)) ?_;refine Wm ?_;apply Y0;apply AWp.block
 refine AWp.loop (fun mz σ=>∃ k,k≤n∧mz = n - k∧σ = ⟨[(0,.d (mmD ms)),(5,.ptr 2 0),(6,.ptr 3 0),(7,.d (polD (sqR ms row d k))),(12,.d (sX b n c)),(13,.d (ex (.int .i64 (n:Nat)))),(14,.d (ex (.int .i64 (k:Nat))))],[.obj (heapO L),.pin [(pv0,.own 0)],.var 54 ((ratC d).map .d),.var 56 (([ex (.bool false),ex (.slice none 0 0),ex (.bool false),ex (.slice none 0 0),ex (.slice none 0 0)]:List D).map .d)]⟩) ?le ⟨0,by omega,rfl,rfl⟩ ?round
 case le=>exact AS.le_of (by refine Yd ?_;refine Yp ?_;refine Yp ?_;refine FrLe.cons rfl (AVle.le D.le_nilP) ?_;refine Yd ?_;refine Yd ?_;refine Yd ?_;exact FrLe.nil) (by refine HpLe.cons (OwLe.obj rfl) ?_;refine HpLe.cons (OwLe.pinB rfl) ?_;apply Yv;apply Yv;exact HpLe.nil)
 case round =>
  rintro mz _ ⟨k,hk,rfl,rfl⟩
  by_cases hlt:k<n
  ·have hb := sqR_pb (ms := ms) hm hr hd h0 k (by omega)
   have hkS:k*(S+S+1)≤100*20000001:=Nat.mul_le_mul (by omega) (by omega)
   by_cases hz:row k = 0
   ·have hs : (row k).num.sign = 0 := by rw [hz]; rfl
    have e1:sqR ms row d (k+1) = sqR ms row d k:=by rw [sqR,if_pos hz]
    apply Y1;refine Wq Qz.cmpT ?_;apply Y0;apply AWp.seq;refine Ct ?_;apply Ys;apply AWp.seq;apply AWp.block;apply Y1;refine Wm ?_;refine Wq (Qs.ixX (k:=k) (ao rfl) (ao rfl) (tab_of rfl) (tab_of rfl) hlt) ?_;refine Wq (Qs.ldH (e:=⟨b,54,flatR row n⟩) 0 i (ao rfl) rfl hi (tab_of rfl) rfl (PartAt.flat hlt)) ?_;refine Al ?_;refine Wa ?_;refine Sf ?_;apply Y0;apply AWp.seq;apply Y1;refine Wq Qz.ldD ?_;refine Wq (Qz.call (Sign_abs (row k))) ?_;refine Wq Qz.cmpT ?_;apply Y0;refine Ct ?_;apply AWp.exit;apply AThen.exit;apply ABlock.hit;apply Yn;apply AWp.region;refine Wq Qz.succ ?_;refine Wm ?_;apply AWl.nil
    refine ALoop.next (n - (k+1)) (by omega) ⟨k+1,by omega,rfl,rfl⟩ ?_
    exact AS.le_of (by refine Yd ?_;refine Yp ?_;refine Yp ?_;refine FrLe.cons rfl (AVle.le (D.le_pol e1.symm)) ?_;refine Yd ?_;refine Yd ?_;refine Yd ?_;exact FrLe.nil) (by refine HpLe.cons (OwLe.obj rfl) ?_;refine HpLe.cons (OwLe.pinB rfl) ?_;apply Yv;apply Yv;exact HpLe.nil)
   ·have hs:(row k).num.sign ≠ 0:=fun e=>hz (num_sign0.1 e)
    have e1:sqR ms row d (k+1) = mrg (sqR ms row d k) [⟨row k / d,ms.getD k default⟩]:=by rw [sqR,if_neg hz]
    have hmj:ms.getD k default∈ms:=by
     rw [List.getD_eq_getElem?_getD,List.getElem?_eq_getElem (by omega)]
     exact List.getElem_mem _
    have h1:PB [⟨row k / d,ms.getD k default⟩] 1 (S+S) e:=PB.single (rat_div_ne hz h0) ((hr k).divQ hd h0) (hm _ hmj)
    have hkl:k<ms.length:=by omega
    apply Y1;refine Wq Qz.cmpT ?_;apply Y0;apply AWp.seq;refine Ct ?_;apply Ys;apply AWp.seq;apply AWp.block;apply Y1;refine Wm ?_;refine Wq (Qs.ixX (k:=k) (ao rfl) (ao rfl) (tab_of rfl) (tab_of rfl) hlt) ?_;refine Wq (Qs.ldH (e:=⟨b,54,flatR row n⟩) 0 i (ao rfl) rfl hi (tab_of rfl) rfl (PartAt.flat hlt)) ?_;refine Al ?_;refine Wa ?_;refine Sf ?_;apply Y0;apply AWp.seq;apply Y1;refine Wq Qz.ldD ?_;refine Wq (Qz.call (Sign_abs (row k))) ?_;refine Wq Qz.cmpF ?_;apply Y0;refine Cf ?_;apply Ys;apply Y1;refine Wq Qz.ldD ?_;refine Wq Qz.ldD ?_;refine Wq (Qz.call (Div_abs (row k) d S S (hr k) hd (by omega) (rat_num_ne h0))) ?_;refine Wm ?_;refine Wq Qz.ext ?_;refine Wq Qz.ext ?_;refine Al ?_;refine Sf ?_;refine Wa ?_;apply Y0
    refine AWp.dr' (DrawOk.self (by kernel_rfl)) [[],[],[],[],[(30,2),(31,3)],[(32,4)],[(29,1),(33,5)],[(34,6)],[(28,0),(35,7)]] [[],[],[],[],[2,3],[2,3,4],[1,2,3,4,5],[1,2,3,4,5,6],[0,1,2,3,4,5,6,7]] rfl (by kernel_rfl) (by kernel_rfl) (by kernel_rfl) ?_
    refine Xq Qz.move ?_;refine Xq Qz.ldD ?_;refine Xq Qz.move ?_;refine Xq Qz.move ?_;refine Xq Qz.indexN ?_;refine Xq Qz.loadEf ?_;(refine Hq rfl ?_;refine Bq.build (tab_of rfl) rfl rfl rfl ?_;(repeat ((first | refine ⟨_,PartOk.ag (ah rfl),?_⟩ | refine ⟨_,PartOk.one rfl (by first | exact One.ex_ rfl | exact One.sl | exact One.ep),?_⟩);refine ⟨_,rfl,?_⟩));refine ⟨_,rfl,?_⟩;refine ⟨_,rfl,?_⟩);(refine Xq (Bq.slice1 (ah rfl) (tab_of rfl) (tab_of rfl) rfl rfl rfl rfl rfl) ?_);refine Xq (Qz.call (PAdd_pb hb h1 (by omega) (by omega))) ?_;refine ⟨_,rfl,?_⟩
    refine Wa ?_;apply AWl.nil;apply ABlock.normal;apply Yn;apply AWp.region;refine Wq Qz.succ ?_;refine Wm ?_;apply AWl.nil
    refine ALoop.next (n - (k+1)) (by omega) ⟨k+1,by omega,rfl,rfl⟩ ?_
    exact AS.le_of (by refine Yd ?_;refine Yp ?_;refine Yp ?_;refine FrLe.cons rfl (AVle.le (D.le_pol e1.symm)) ?_;refine Yd ?_;refine Yd ?_;refine Yd ?_;exact FrLe.nil) (by refine HpLe.cons (OwLe.obj rfl) ?_;refine HpLe.cons (OwLe.pinB rfl) ?_;apply Yv;apply Yv;exact HpLe.nil)
  ·obtain rfl : k = n := by omega
   apply Y1;refine Wq Qz.cmpF ?_;apply Y0;apply AWp.seq;refine Cf ?_;apply AWp.exit;apply AThen.exit;apply ALoop.exit;apply ABlock.hit;apply Yn;apply Y1;refine Wq Qz.ldD ?_;refine Wm ?_;(refine AWs.q rfl rfl ?_;(refine Bq.build (tab_of rfl) rfl rfl rfl ?_;(repeat ((first | refine ⟨_,PartOk.ag (ao rfl),?_⟩ | refine ⟨_,PartOk.one rfl (by first | exact One.ex_ rfl | exact One.sl | exact One.ep),?_⟩);refine ⟨_,rfl,?_⟩));refine ⟨_,rfl,?_⟩));refine Sf ?_;apply Y0;apply AWp.ret
   refine FinC.ret (RetsA.d (Rets.of1 (ResV.cell rfl rfl (tab_of rfl) rfl rfl rfl) (D.le.refl _))) rfl ?_ rfl
   exact ⟨rfl,_,_,_,_,rfl⟩
theorem IAdd_abs (x y:Int) (hn:(digs x.natAbs).length≤4398046511104) (hn':(digs y.natAbs).length≤4398046511104):Abs Tryz.prog 75 [agD (intC x),agD (intC y)] (agD (intC (x+y))):=by
 refine Abs.of_old (callFunc_run Tryz.func75 (by kernel_rfl) (by kernel_rfl)) fun s vs hok hl hv=>?_
 rw [vs2 hl]
 obtain ⟨x0,X0,n0,c0,e0,h0⟩:=intC_open (hv 0 (by simp))
 obtain ⟨x1,X1,n1,c1,e1,h1⟩:=intC_open (hv 1 (by simp))
 rw [e0,e1]
 exact (Radd_any x0 x1 X0 X1 n0 c0 n1 c1 x y _ h0 h1 hn hn').mono fun e w' ⟨y,Y,m,k,he,hI,hE⟩=>⟨_,he,hE,fun s' hw hok' _ _=>by subst hw;exact intC_mk hok' hI⟩
theorem Lowest_abs (x y:Int) (hn:(digs x.natAbs).length≤4398046511103) (hn':(digs y.natAbs).length≤4398046511103) (hy:y ≠ 0):Abs Tryz.prog 74 [agD (intC x),agD (intC y)] (agD (ratC (Rat.divInt x y))):=by
 refine Abs.of_old (callFunc_run Tryz.func74 (by kernel_rfl) (by kernel_rfl)) fun s vs hok hl hv=>?_
 rw [vs2 hl]
 obtain ⟨x0,X0,n0,c0,e0,h0⟩:=intC_open (hv 0 (by simp))
 obtain ⟨x1,X1,n1,c1,e1,h1⟩:=intC_open (hv 1 (by simp))
 rw [e0,e1]
 exact (Rlowest_any x0 x1 X0 X1 n0 c0 n1 c1 x y _ h0 h1 hn hn' hy).mono fun e w' ⟨y,y',Y,Y',m,k,m',k',he,hI,hE⟩=>⟨_,he,hE,fun s' hw hok' _ _=>by subst hw;exact ratC_mk hok' hI⟩
structure Qr where
 n:Int
 d:Int
 k:Int
instance : Inhabited Qr:=⟨⟨0,0,0⟩⟩
def Qr.Ok (x : Qr):Prop:=-128≤x.n∧x.n≤127∧-128≤x.d∧x.d≤127∧0≤x.k∧x.k≤255
def qrC (x : Qr):List D:=[ex (.int .i8 x.n),ex (.int .i8 x.d),ex (.int .u8 x.k)]
def bigQ (x : Qr):Int:=4611686018427387904+x.k
def numQ (x : Qr):Int:=if x.k % 8 = 7 then x.n*bigQ x*bigQ x+x.k else x.n
def denQ1 (x : Qr):Int:=if x.d = 0 then 1 else x.d
def denQ (x : Qr):Int:=if x.k % 8 = 6 then denQ1 x*bigQ x*bigQ x else denQ1 x
def madeQ (x : Qr):Rat:=Rat.divInt (numQ x) (denQ x)
theorem big_len {x : Qr} (h:x.Ok):(digs (bigQ x).natAbs).length≤2:=len_of_lt (by
 obtain ⟨_,_,_,_,h1,h2⟩:=h
 unfold bigQ
 simp only [BB]
 omega)
theorem den1_ne {x : Qr}:denQ1 x ≠ 0:=by unfold denQ1;split <;> omega
theorem big_ne {x : Qr} (h:x.Ok):bigQ x ≠ 0:=by
 obtain ⟨_,_,_,_,h1,h2⟩:=h
 unfold bigQ
 omega
theorem den_ne {x : Qr} (h:x.Ok):denQ x ≠ 0:=by
 unfold denQ
 split
 ·exact Int.mul_ne_zero (Int.mul_ne_zero den1_ne (big_ne h)) (big_ne h)
 ·exact den1_ne
theorem den1_len {x : Qr} (h:x.Ok):(digs (denQ1 x).natAbs).length≤1:=by
 obtain ⟨_,_,h3,h4,_,_⟩:=h
 unfold denQ1
 split <;> exact len_sm (by omega) (by omega)
theorem den_len {x : Qr} (h:x.Ok):(digs (denQ x).natAbs).length≤5:=by
 unfold denQ
 split
 ·exact len_mul (N:=3) (len_mul (N:=1) (den1_len h) (big_len h)) (big_len h)
 ·exact Nat.le_trans (den1_len h) (by omega)
theorem numB_len {x : Qr} (h:x.Ok):(digs (x.n*bigQ x*bigQ x+x.k).natAbs).length≤5:=len_of_lt (by
 obtain ⟨h1,h2,_,_,h5,h6⟩:=h
 have hb0:0≤bigQ x:=by unfold bigQ;omega
 have hb:bigQ x≤4611686018427388159:=by unfold bigQ;omega
 have e1:-(128*4611686018427388159)≤x.n*bigQ x∧x.n*bigQ x≤128*4611686018427388159:=by
  have a:=Int.mul_le_mul_of_nonneg_right h1 hb0
  have b:=Int.mul_le_mul_of_nonneg_right h2 hb0
  omega
 generalize x.n*bigQ x = y at e1
 have a:=Int.mul_le_mul_of_nonneg_right e1.1 hb0
 have b:=Int.mul_le_mul_of_nonneg_right e1.2 hb0
 simp only [BB]
 omega)
theorem num_len {x : Qr} (h:x.Ok):(digs (numQ x).natAbs).length≤5:=by
 unfold numQ
 split
 ·exact numB_len h
 ·obtain ⟨h1,h2,_⟩:=h
  exact Nat.le_trans (len_sm (by omega) (by omega)) (by omega:1≤5)
theorem rsz_int {z : Int} {N:Nat} (h:(digs z.natAbs).length≤N) (h1:1≤N):RSz ((z:Int):Rat) N:=⟨by simpa using h,Nat.le_trans (by simpa using len_sm (z:=1) (by omega) (by omega)) h1⟩
theorem madeQ_sz {x : Qr} (h:x.Ok):RSz (madeQ x) 10:=by
 unfold madeQ
 rw [Rat.divInt_eq_div]
 exact (rsz_int (num_len h) (by omega)).divQ (rsz_int (den_len h) (by omega)) (fun e=>den_ne h (by exact_mod_cast e))
theorem qMade_abs (x : Qr) (h:x.Ok):Abs Tryz.prog 34 [agD (qrC x)] (agD (ratC (madeQ x))):=by
 have hbl:=big_len h
 have hbn:=big_ne h
 have hnB:=numB_len h
 obtain ⟨h1,h2,h3,h4,h5,h6⟩:=h
 have ln:(digs x.n.natAbs).length≤1:=len_sm (by omega) (by omega)
 have ld:(digs x.d.natAbs).length≤1:=len_sm (by omega) (by omega)
 have lk:(digs x.k.natAbs).length≤1:=len_sm (by omega) (by omega)
 have l1:(digs (1:Int).natAbs).length≤1:=len_sm (by omega) (by omega)
 have lnb:=len_mul ln hbl
 have lnbb:=len_mul lnb hbl
 have ldb:=len_mul ld hbl
 have ldbb:=len_mul ldb hbl
 have l1b:=len_mul l1 hbl
 have l1bb:=len_mul l1b hbl
 have hbig:bigQ x≤9223372036854775807:=by unfold bigQ;omega
 have hbig0:-9223372036854775808≤bigQ x:=by unfold bigQ;omega
 have hb2:bigQ x*bigQ x ≠ 0:=Int.mul_ne_zero hbn hbn
 have n1:(1:Int)*bigQ x*bigQ x ≠ 0:=Int.mul_ne_zero (Int.mul_ne_zero (by omega) hbn) hbn
 by_cases hD:x.d = 0
 ·have nd:x.d = 0∨x.d*bigQ x*bigQ x ≠ 0:=(Classical.em (x.d = 0)).imp id fun e=>Int.mul_ne_zero (Int.mul_ne_zero e hbn) hbn
  by_cases hk:x.k % 8 = 7
  ·refine Ab Tryz.func34 fun s0 => ?_
   rw [Tryz.ntmps34]
   apply Y1;refine Bx ?_;refine Al ?_;apply Y0;apply AWp.seq
   refine AWp.dr' (DrawOk.self (by kernel_rfl)) [[],[(6,0)],[(7,1)],[(8,2)],[],[(10,4)],[(11,5)],[(12,6)],[],[]] [[],[0],[0,1],[0,1,2],[],[4],[4,5],[0,1,2,3,4,5,6],[],[]] rfl (by kernel_rfl) (by kernel_rfl) (by kernel_rfl) ?_
   refine Xq Qz.fldP ?_;refine Xq Qz.ldD1 ?_;refine Xq Qz.conv64 ?_;refine Xq (Qz.call (Rof_abs x.n (by omega) (by omega))) ?_;refine Xq Qz.fldP ?_;refine Xq Qz.ldD1 ?_;refine Xq Qz.conv64 ?_;refine Xq (Qz.call (Rof_abs x.d (by omega) (by omega))) ?_;refine Xn ?_;refine Xn ?_;refine ⟨_,rfl,?_⟩
   refine Sf ?_;refine Sf ?_;apply Y0;apply AWp.seq;apply Y1;refine Wq Qz.fldP ?_;refine Wq Qz.ldD1 ?_;refine Wq Qz.cmpT ?_;apply Y0;refine Ct ?_;apply AWp.region;refine Wq (Qz.call (Rof_abs 1 (by omega) (by omega))) ?_;refine Sf ?_;apply Y0;apply Y1;refine Wq Qz.fldP ?_;refine Wq Qz.ldD1 ?_;refine Wq Qz.conv64 ?_;refine Wq Qz.add ?_;refine Wq (Qz.call (Rof_abs (bigQ x) hbig0 hbig)) ?_;refine Al ?_;refine Sf ?_;apply Y0;apply AWp.seq;apply Y1;refine Wq Qz.fldP ?_;refine Wq Qz.ldD1 ?_;refine Wq Qz.rem ?_;refine Wq Qz.cmpT ?_;apply Y0;refine Ct ?_
   refine AWp.dr' (DrawOk.self (by kernel_rfl)) [[],[],[(27,0),(28,1)],[],[(29,2),(30,3)],[],[(32,5)],[(33,6)],[(34,7)],[(31,4),(35,8)]] [[],[],[0,1],[],[0,1,2,3],[],[5],[5,6],[0,1,2,3,4,5,6,7],[0,1,2,3,4,5,6,7,8]] rfl (by kernel_rfl) (by kernel_rfl) (by kernel_rfl) ?_
   refine Xq Qz.ldD ?_;refine Xq Qz.ldD ?_;refine Xq (Qz.call (IMul_abs x.n (bigQ x) (by omega) (by omega))) ?_;refine Xq Qz.ldD ?_;refine Xq (Qz.call (IMul_abs (x.n*bigQ x) (bigQ x) (by omega) (by omega))) ?_;refine Xq Qz.fldP ?_;refine Xq Qz.ldD1 ?_;refine Xq Qz.conv64 ?_;refine Xq (Qz.call (Rof_abs x.k (by omega) (by omega))) ?_;refine Xq (Qz.call (IAdd_abs (x.n*bigQ x*bigQ x) x.k (by omega) (by omega))) ?_;refine ⟨_,rfl,?_⟩
   refine Sf ?_;apply Y0;apply AWp.seq;apply Y1;refine Wq Qz.fldP ?_;refine Wq Qz.ldD1 ?_;refine Wq Qz.rem ?_;refine Wq Qz.cmpF ?_;apply Y0;refine Cf ?_;apply Ys;apply Y1;refine Wq Qz.ldD ?_;refine Wq Qz.ldD ?_;refine Wq (Qz.call (Lowest_abs (x.n*bigQ x*bigQ x+x.k) 1 (by omega) (by omega) (by omega))) ?_;refine Sf ?_;apply Y0;apply AWp.ret
   exact Fin.ret (Rets.of1 (ResV.cell rfl rfl (tab_of rfl) rfl rfl rfl) (D.le.of_eq (by simp only [madeQ,numQ,denQ,denQ1,if_pos hk,if_neg (show ¬ x.k % 8 = 6 by omega)];(first | rw [if_pos hD] | rw [if_neg hD]);rfl)))
  ·by_cases hk6:x.k % 8 = 6
   ·refine Ab Tryz.func34 fun s0 => ?_
    rw [Tryz.ntmps34]
    apply Y1;refine Bx ?_;refine Al ?_;apply Y0;apply AWp.seq
    refine AWp.dr' (DrawOk.self (by kernel_rfl)) [[],[(6,0)],[(7,1)],[(8,2)],[],[(10,4)],[(11,5)],[(12,6)],[],[]] [[],[0],[0,1],[0,1,2],[],[4],[4,5],[0,1,2,3,4,5,6],[],[]] rfl (by kernel_rfl) (by kernel_rfl) (by kernel_rfl) ?_
    refine Xq Qz.fldP ?_;refine Xq Qz.ldD1 ?_;refine Xq Qz.conv64 ?_;refine Xq (Qz.call (Rof_abs x.n (by omega) (by omega))) ?_;refine Xq Qz.fldP ?_;refine Xq Qz.ldD1 ?_;refine Xq Qz.conv64 ?_;refine Xq (Qz.call (Rof_abs x.d (by omega) (by omega))) ?_;refine Xn ?_;refine Xn ?_;refine ⟨_,rfl,?_⟩
    refine Sf ?_;refine Sf ?_;apply Y0;apply AWp.seq;apply Y1;refine Wq Qz.fldP ?_;refine Wq Qz.ldD1 ?_;refine Wq Qz.cmpT ?_;apply Y0;refine Ct ?_;apply AWp.region;refine Wq (Qz.call (Rof_abs 1 (by omega) (by omega))) ?_;refine Sf ?_;apply Y0;apply Y1;refine Wq Qz.fldP ?_;refine Wq Qz.ldD1 ?_;refine Wq Qz.conv64 ?_;refine Wq Qz.add ?_;refine Wq (Qz.call (Rof_abs (bigQ x) hbig0 hbig)) ?_;refine Al ?_;refine Sf ?_;apply Y0;apply AWp.seq;apply Y1;refine Wq Qz.fldP ?_;refine Wq Qz.ldD1 ?_;refine Wq Qz.rem ?_;refine Wq Qz.cmpF ?_;apply Y0;refine Cf ?_;apply Ys;apply AWp.seq;apply Y1;refine Wq Qz.fldP ?_;refine Wq Qz.ldD1 ?_;refine Wq Qz.rem ?_;refine Wq Qz.cmpT ?_;apply Y0;refine Ct ?_
    refine AWp.dr' (DrawOk.self (by kernel_rfl)) [[],[],[(41,0),(42,1)],[],[(43,2),(44,3)]] [[],[],[0,1],[],[0,1,2,3]] rfl (by kernel_rfl) (by kernel_rfl) (by kernel_rfl) ?_
    refine Xq Qz.ldD ?_;refine Xq Qz.ldD ?_;refine Xq (Qz.call (IMul_abs 1 (bigQ x) (by omega) (by omega))) ?_;refine Xq Qz.ldD ?_;refine Xq (Qz.call (IMul_abs (1*bigQ x) (bigQ x) (by omega) (by omega))) ?_;refine ⟨_,rfl,?_⟩
    refine Sf ?_;apply Y0;apply Y1;refine Wq Qz.ldD ?_;refine Wq Qz.ldD ?_;refine Wq (Qz.call (Lowest_abs x.n (1*bigQ x*bigQ x) (by omega) (by omega) n1)) ?_;refine Sf ?_;apply Y0;apply AWp.ret
    exact Fin.ret (Rets.of1 (ResV.cell rfl rfl (tab_of rfl) rfl rfl rfl) (D.le.of_eq (by simp only [madeQ,numQ,denQ,denQ1,if_neg hk,if_pos hk6];(first | rw [if_pos hD] | rw [if_neg hD]);rfl)))
   ·refine Ab Tryz.func34 fun s0 => ?_
    rw [Tryz.ntmps34]
    apply Y1;refine Bx ?_;refine Al ?_;apply Y0;apply AWp.seq
    refine AWp.dr' (DrawOk.self (by kernel_rfl)) [[],[(6,0)],[(7,1)],[(8,2)],[],[(10,4)],[(11,5)],[(12,6)],[],[]] [[],[0],[0,1],[0,1,2],[],[4],[4,5],[0,1,2,3,4,5,6],[],[]] rfl (by kernel_rfl) (by kernel_rfl) (by kernel_rfl) ?_
    refine Xq Qz.fldP ?_;refine Xq Qz.ldD1 ?_;refine Xq Qz.conv64 ?_;refine Xq (Qz.call (Rof_abs x.n (by omega) (by omega))) ?_;refine Xq Qz.fldP ?_;refine Xq Qz.ldD1 ?_;refine Xq Qz.conv64 ?_;refine Xq (Qz.call (Rof_abs x.d (by omega) (by omega))) ?_;refine Xn ?_;refine Xn ?_;refine ⟨_,rfl,?_⟩
    refine Sf ?_;refine Sf ?_;apply Y0;apply AWp.seq;apply Y1;refine Wq Qz.fldP ?_;refine Wq Qz.ldD1 ?_;refine Wq Qz.cmpT ?_;apply Y0;refine Ct ?_;apply AWp.region;refine Wq (Qz.call (Rof_abs 1 (by omega) (by omega))) ?_;refine Sf ?_;apply Y0;apply Y1;refine Wq Qz.fldP ?_;refine Wq Qz.ldD1 ?_;refine Wq Qz.conv64 ?_;refine Wq Qz.add ?_;refine Wq (Qz.call (Rof_abs (bigQ x) hbig0 hbig)) ?_;refine Al ?_;refine Sf ?_;apply Y0;apply AWp.seq;apply Y1;refine Wq Qz.fldP ?_;refine Wq Qz.ldD1 ?_;refine Wq Qz.rem ?_;refine Wq Qz.cmpF ?_;apply Y0;refine Cf ?_;apply Ys;apply AWp.seq;apply Y1;refine Wq Qz.fldP ?_;refine Wq Qz.ldD1 ?_;refine Wq Qz.rem ?_;refine Wq Qz.cmpF ?_;apply Y0;refine Cf ?_;apply Ys;apply Y1;refine Wq Qz.ldD ?_;refine Wq Qz.ldD ?_;refine Wq (Qz.call (Lowest_abs x.n 1 (by omega) (by omega) (by omega))) ?_;refine Sf ?_;apply Y0;apply AWp.ret
    exact Fin.ret (Rets.of1 (ResV.cell rfl rfl (tab_of rfl) rfl rfl rfl) (D.le.of_eq (by simp only [madeQ,numQ,denQ,denQ1,if_neg hk,if_neg hk6];(first | rw [if_pos hD] | rw [if_neg hD]);rfl)))
 ·have nd:x.d = 0∨x.d*bigQ x*bigQ x ≠ 0:=(Classical.em (x.d = 0)).imp id fun e=>Int.mul_ne_zero (Int.mul_ne_zero e hbn) hbn
  by_cases hk:x.k % 8 = 7
  ·refine Ab Tryz.func34 fun s0 => ?_
   rw [Tryz.ntmps34]
   apply Y1;refine Bx ?_;refine Al ?_;apply Y0;apply AWp.seq
   refine AWp.dr' (DrawOk.self (by kernel_rfl)) [[],[(6,0)],[(7,1)],[(8,2)],[],[(10,4)],[(11,5)],[(12,6)],[],[]] [[],[0],[0,1],[0,1,2],[],[4],[4,5],[0,1,2,3,4,5,6],[],[]] rfl (by kernel_rfl) (by kernel_rfl) (by kernel_rfl) ?_
   refine Xq Qz.fldP ?_;refine Xq Qz.ldD1 ?_;refine Xq Qz.conv64 ?_;refine Xq (Qz.call (Rof_abs x.n (by omega) (by omega))) ?_;refine Xq Qz.fldP ?_;refine Xq Qz.ldD1 ?_;refine Xq Qz.conv64 ?_;refine Xq (Qz.call (Rof_abs x.d (by omega) (by omega))) ?_;refine Xn ?_;refine Xn ?_;refine ⟨_,rfl,?_⟩
   refine Sf ?_;refine Sf ?_;apply Y0;apply AWp.seq;apply Y1;refine Wq Qz.fldP ?_;refine Wq Qz.ldD1 ?_;refine Wq Qz.cmpF ?_;apply Y0;refine Cf ?_;apply Ys;apply Y1;refine Wq Qz.fldP ?_;refine Wq Qz.ldD1 ?_;refine Wq Qz.conv64 ?_;refine Wq Qz.add ?_;refine Wq (Qz.call (Rof_abs (bigQ x) hbig0 hbig)) ?_;refine Al ?_;refine Sf ?_;apply Y0;apply AWp.seq;apply Y1;refine Wq Qz.fldP ?_;refine Wq Qz.ldD1 ?_;refine Wq Qz.rem ?_;refine Wq Qz.cmpT ?_;apply Y0;refine Ct ?_
   refine AWp.dr' (DrawOk.self (by kernel_rfl)) [[],[],[(27,0),(28,1)],[],[(29,2),(30,3)],[],[(32,5)],[(33,6)],[(34,7)],[(31,4),(35,8)]] [[],[],[0,1],[],[0,1,2,3],[],[5],[5,6],[0,1,2,3,4,5,6,7],[0,1,2,3,4,5,6,7,8]] rfl (by kernel_rfl) (by kernel_rfl) (by kernel_rfl) ?_
   refine Xq Qz.ldD ?_;refine Xq Qz.ldD ?_;refine Xq (Qz.call (IMul_abs x.n (bigQ x) (by omega) (by omega))) ?_;refine Xq Qz.ldD ?_;refine Xq (Qz.call (IMul_abs (x.n*bigQ x) (bigQ x) (by omega) (by omega))) ?_;refine Xq Qz.fldP ?_;refine Xq Qz.ldD1 ?_;refine Xq Qz.conv64 ?_;refine Xq (Qz.call (Rof_abs x.k (by omega) (by omega))) ?_;refine Xq (Qz.call (IAdd_abs (x.n*bigQ x*bigQ x) x.k (by omega) (by omega))) ?_;refine ⟨_,rfl,?_⟩
   refine Sf ?_;apply Y0;apply AWp.seq;apply Y1;refine Wq Qz.fldP ?_;refine Wq Qz.ldD1 ?_;refine Wq Qz.rem ?_;refine Wq Qz.cmpF ?_;apply Y0;refine Cf ?_;apply Ys;apply Y1;refine Wq Qz.ldD ?_;refine Wq Qz.ldD ?_;refine Wq (Qz.call (Lowest_abs (x.n*bigQ x*bigQ x+x.k) x.d (by omega) (by omega) hD)) ?_;refine Sf ?_;apply Y0;apply AWp.ret
   exact Fin.ret (Rets.of1 (ResV.cell rfl rfl (tab_of rfl) rfl rfl rfl) (D.le.of_eq (by simp only [madeQ,numQ,denQ,denQ1,if_pos hk,if_neg (show ¬ x.k % 8 = 6 by omega)];(first | rw [if_pos hD] | rw [if_neg hD]);rfl)))
  ·by_cases hk6:x.k % 8 = 6
   ·refine Ab Tryz.func34 fun s0 => ?_
    rw [Tryz.ntmps34]
    apply Y1;refine Bx ?_;refine Al ?_;apply Y0;apply AWp.seq
    refine AWp.dr' (DrawOk.self (by kernel_rfl)) [[],[(6,0)],[(7,1)],[(8,2)],[],[(10,4)],[(11,5)],[(12,6)],[],[]] [[],[0],[0,1],[0,1,2],[],[4],[4,5],[0,1,2,3,4,5,6],[],[]] rfl (by kernel_rfl) (by kernel_rfl) (by kernel_rfl) ?_
    refine Xq Qz.fldP ?_;refine Xq Qz.ldD1 ?_;refine Xq Qz.conv64 ?_;refine Xq (Qz.call (Rof_abs x.n (by omega) (by omega))) ?_;refine Xq Qz.fldP ?_;refine Xq Qz.ldD1 ?_;refine Xq Qz.conv64 ?_;refine Xq (Qz.call (Rof_abs x.d (by omega) (by omega))) ?_;refine Xn ?_;refine Xn ?_;refine ⟨_,rfl,?_⟩
    refine Sf ?_;refine Sf ?_;apply Y0;apply AWp.seq;apply Y1;refine Wq Qz.fldP ?_;refine Wq Qz.ldD1 ?_;refine Wq Qz.cmpF ?_;apply Y0;refine Cf ?_;apply Ys;apply Y1;refine Wq Qz.fldP ?_;refine Wq Qz.ldD1 ?_;refine Wq Qz.conv64 ?_;refine Wq Qz.add ?_;refine Wq (Qz.call (Rof_abs (bigQ x) hbig0 hbig)) ?_;refine Al ?_;refine Sf ?_;apply Y0;apply AWp.seq;apply Y1;refine Wq Qz.fldP ?_;refine Wq Qz.ldD1 ?_;refine Wq Qz.rem ?_;refine Wq Qz.cmpF ?_;apply Y0;refine Cf ?_;apply Ys;apply AWp.seq;apply Y1;refine Wq Qz.fldP ?_;refine Wq Qz.ldD1 ?_;refine Wq Qz.rem ?_;refine Wq Qz.cmpT ?_;apply Y0;refine Ct ?_
    refine AWp.dr' (DrawOk.self (by kernel_rfl)) [[],[],[(41,0),(42,1)],[],[(43,2),(44,3)]] [[],[],[0,1],[],[0,1,2,3]] rfl (by kernel_rfl) (by kernel_rfl) (by kernel_rfl) ?_
    refine Xq Qz.ldD ?_;refine Xq Qz.ldD ?_;refine Xq (Qz.call (IMul_abs x.d (bigQ x) (by omega) (by omega))) ?_;refine Xq Qz.ldD ?_;refine Xq (Qz.call (IMul_abs (x.d*bigQ x) (bigQ x) (by omega) (by omega))) ?_;refine ⟨_,rfl,?_⟩
    refine Sf ?_;apply Y0;apply Y1;refine Wq Qz.ldD ?_;refine Wq Qz.ldD ?_;refine Wq (Qz.call (Lowest_abs x.n (x.d*bigQ x*bigQ x) (by omega) (by omega) (nd.resolve_left hD))) ?_;refine Sf ?_;apply Y0;apply AWp.ret
    exact Fin.ret (Rets.of1 (ResV.cell rfl rfl (tab_of rfl) rfl rfl rfl) (D.le.of_eq (by simp only [madeQ,numQ,denQ,denQ1,if_neg hk,if_pos hk6];(first | rw [if_pos hD] | rw [if_neg hD]);rfl)))
   ·refine Ab Tryz.func34 fun s0 => ?_
    rw [Tryz.ntmps34]
    apply Y1;refine Bx ?_;refine Al ?_;apply Y0;apply AWp.seq
    refine AWp.dr' (DrawOk.self (by kernel_rfl)) [[],[(6,0)],[(7,1)],[(8,2)],[],[(10,4)],[(11,5)],[(12,6)],[],[]] [[],[0],[0,1],[0,1,2],[],[4],[4,5],[0,1,2,3,4,5,6],[],[]] rfl (by kernel_rfl) (by kernel_rfl) (by kernel_rfl) ?_
    refine Xq Qz.fldP ?_;refine Xq Qz.ldD1 ?_;refine Xq Qz.conv64 ?_;refine Xq (Qz.call (Rof_abs x.n (by omega) (by omega))) ?_;refine Xq Qz.fldP ?_;refine Xq Qz.ldD1 ?_;refine Xq Qz.conv64 ?_;refine Xq (Qz.call (Rof_abs x.d (by omega) (by omega))) ?_;refine Xn ?_;refine Xn ?_;refine ⟨_,rfl,?_⟩
    refine Sf ?_;refine Sf ?_;apply Y0;apply AWp.seq;apply Y1;refine Wq Qz.fldP ?_;refine Wq Qz.ldD1 ?_;refine Wq Qz.cmpF ?_;apply Y0;refine Cf ?_;apply Ys;apply Y1;refine Wq Qz.fldP ?_;refine Wq Qz.ldD1 ?_;refine Wq Qz.conv64 ?_;refine Wq Qz.add ?_;refine Wq (Qz.call (Rof_abs (bigQ x) hbig0 hbig)) ?_;refine Al ?_;refine Sf ?_;apply Y0;apply AWp.seq;apply Y1;refine Wq Qz.fldP ?_;refine Wq Qz.ldD1 ?_;refine Wq Qz.rem ?_;refine Wq Qz.cmpF ?_;apply Y0;refine Cf ?_;apply Ys;apply AWp.seq;apply Y1;refine Wq Qz.fldP ?_;refine Wq Qz.ldD1 ?_;refine Wq Qz.rem ?_;refine Wq Qz.cmpF ?_;apply Y0;refine Cf ?_;apply Ys;apply Y1;refine Wq Qz.ldD ?_;refine Wq Qz.ldD ?_;refine Wq (Qz.call (Lowest_abs x.n x.d (by omega) (by omega) hD)) ?_;refine Sf ?_;apply Y0;apply AWp.ret
    exact Fin.ret (Rets.of1 (ResV.cell rfl rfl (tab_of rfl) rfl rfl rfl) (D.le.of_eq (by simp only [madeQ,numQ,denQ,denQ1,if_neg hk,if_neg hk6];(first | rw [if_pos hD] | rw [if_neg hD]);rfl)))
structure Sr where
 q:Qr
 T:Nat
 X:List (Nat→Int)
instance : Inhabited Sr:=⟨⟨default,0,[]⟩⟩
def Sr.Ok (s : Sr):Prop:=s.q.Ok∧Raw8 s.X
def srC (s : Sr):List D:=qrC s.q ++ [r5D s.T s.X]
def srD (T : Nat) (L:List Sr):D:=slD T 4 (L.map srC)
def madeA (signs : Bool) (q:Rat):Rat:=if q.num.sign<0∧signs = false then -q else q
def madeSq (signs : Bool) (s:Sr):Sq:=⟨madeA signs (madeQ s.q),madeP s.X 2 2 3⟩
def madeL (signs : Bool) (L:List Sr) (n:Nat):List Sq:=(L.take n).map (madeSq signs)
theorem madeL_succ {signs : Bool} {L:List Sr} {n:Nat} (h:n<L.length):madeL signs L (n+1) = madeL signs L n ++ [madeSq signs (L.getD n default)]:=by
 unfold madeL
 rw [List.take_succ_eq_append_getElem h,List.map_append,List.getD_eq_getElem?_getD,List.getElem?_eq_getElem h]
 rfl
theorem madeL_length {signs : Bool} {L:List Sr} {n:Nat}:(madeL signs L n).length = min n L.length:=by
 unfold madeL
 rw [List.length_map,List.length_take]
theorem madeA_sz {signs : Bool} {q:Rat} {N:Nat} (h:RSz q N):RSz (madeA signs q) N:=by
 unfold madeA
 split
 ·exact h.neg
 ·exact h
theorem madeSq_b {signs : Bool} {s:Sr} (h:s.Ok):PB (madeSq signs s).p 3 9 2∧RSz (madeSq signs s).a 10:=⟨madeP_pb s.X 2 3 (by omega),madeA_sz (madeQ_sz h.1)⟩
theorem madeL_b {signs : Bool} {L:List Sr} (h:∀ s∈L,s.Ok) (n:Nat):SqB (madeL signs L n) 3 9 10 2:=fun s hs=>by
 obtain ⟨r,hr,rfl⟩:=List.mem_map.1 hs
 exact madeSq_b (h r (List.mem_of_mem_take hr))
theorem RsList_abs (T : Nat) (L:List Sr) (signs:Bool) (h:∀ s∈L,s.Ok) (m:Nat) (hm:m≤1000):Abs Tryz.prog 8 [srD T L,ex (.int .i64 (m:Nat)),ex (.bool signs)] (sqD (madeL signs L m)):=by
 refine Ab Tryz.func8 fun s0=>?_
 rw [Tryz.ntmps8]
 apply Y1;refine Wa ?_;apply Y0;apply Y1;refine AWs.b0 (tab_of rfl) (tab_of rfl) rfl rfl rfl rfl rfl ?_;refine Wa ?_;apply Y0;apply AWp.seq;apply Y1;refine Wa ?_;apply Y0;apply AWp.block
 refine AWp.loop (fun mz σ=>∃ k,k≤min L.length m∧mz = min L.length m - k∧σ = ⟨[(0,.d (srD T L)),(1,.d (ex (.int .i64 (m:Nat)))),(2,.d (ex (.bool signs))),(7,.own 0),(8,.d (ex (.int .i64 (k:Nat))))],[.row 56 5 ((madeL signs L k).map sqC)]⟩) ?le ⟨0,by omega,rfl,rfl⟩ ?round
 case le=>exact AS.le_of (by refine Yd ?_;refine Yd ?_;refine Yd ?_;refine FrLe.cons rfl (AVle.own rfl) ?_;refine Yd ?_;exact FrLe.nil) (by apply Yr;exact HpLe.nil)
 case round =>
  rintro mz _ ⟨k,hk,rfl,rfl⟩
  by_cases hlt:k<min L.length m
  ·have hkL : k < L.length := by omega
   have hkm:k<m:=by omega
   have hlen:(madeL signs L k).length = min k L.length:=madeL_length
   have hr:L.getD k default∈L:=by
    rw [List.getD_eq_getElem?_getD,List.getElem?_eq_getElem hkL]
    exact List.getElem_mem _
   have hok:=h _ hr
   have e1:=madeL_succ (signs:=signs) hkL
   have cm:=qMade_abs (L.getD k default).q hok.1
   have cp:=RMade_abs (L.getD k default).T (L.getD k default).X 2 3 2 hok.2 (by omega) (by omega) (by omega) (by omega)
   by_cases hn:(madeQ (L.getD k default).q).num.sign<0∧signs = false
   ·have ea : madeSq signs (L.getD k default) = ⟨-madeQ (L.getD k default).q, madeP (L.getD k default).X 2 2 3⟩ := by rw [madeSq, madeA, if_pos hn]
    obtain ⟨hneg,rfl⟩:=hn
    apply AWp.seq;apply Y1;refine Wm ?_;refine Wm ?_;refine Wq Qz.lenN ?_;refine Wq Qz.cmpT ?_;refine Wm ?_;refine Wg Qz.move ?_;refine Wg Qz.move ?_;refine Wg Qz.cmpT ?_;refine Wq Qz.pickT ?_;apply Y0;refine Ct ?_;apply Ys;apply AWp.seq;apply AWp.block;apply Y1;refine Wm ?_;refine Wm ?_;refine Wq Qz.indexN ?_;refine Wq Qz.fldE ?_;refine Wq Qz.ldE ?_;refine Wq (Qz.call (cm)) ?_;refine Al ?_;refine Sf ?_;apply Y0;apply AWp.seq;apply Y1;refine Wq Qz.ldD ?_;refine Wq (Qz.call (RSign_abs (madeQ (L.getD k default).q))) ?_;refine Wq Qz.cmpT ?_;refine Wm ?_;refine Wg Qz.move ?_;refine Wg Qz.not ?_;refine Wq Qz.pickT ?_;apply Y0;refine Ct ?_;apply AWp.region;refine Wq Qz.ldD ?_;refine Wq (Qz.call (RNegq_abs (madeQ (L.getD k default).q))) ?_;refine Sf ?_;apply Y0
    refine AWp.dr' (DrawOk.self (by kernel_rfl)) [[],[],[],[],[(39,2),(40,3)],[(41,4)],[(42,5)],[(43,6)],[(38,1),(44,7)],[(45,8)]] [[],[],[],[],[2,3],[2,3,4],[2,3,4,5],[2,3,4,5,6],[1,2,3,4,5,6,7],[1,2,3,4,5,6,7,8]] rfl (by kernel_rfl) (by kernel_rfl) (by kernel_rfl) ?_
    refine Xq Qz.move ?_;refine Xq Qz.ldD ?_;refine Xq Qz.move ?_;refine Xq Qz.move ?_;refine Xq Qz.indexN ?_;refine Xq Qz.fldE ?_;refine Xq Qz.loadEf ?_;refine Xq (Qz.call (cp)) ?_;(refine Hq rfl ?_;refine Bq.build (tab_of rfl) rfl rfl rfl ?_;(repeat ((first | refine ⟨_,PartOk.ag (ah rfl),?_⟩ | refine ⟨_,PartOk.one rfl (by first | exact One.ex_ rfl | exact One.sl | exact One.ep),?_⟩);refine ⟨_,rfl,?_⟩));refine ⟨_,rfl,?_⟩;refine ⟨_,rfl,?_⟩);(refine Xq (Bq.slice1 (ah rfl) (tab_of rfl) (tab_of rfl) rfl rfl rfl rfl rfl) ?_);refine ⟨_,rfl,?_⟩
    (refine Ap ?_);refine Wa ?_;apply AWl.nil;apply ABlock.normal;apply Yn;apply AWp.region;refine Wm ?_;refine Wq Qz.succ ?_;refine Wa ?_;apply AWl.nil
    refine ALoop.next (min L.length m - (k+1)) (by omega) ⟨k+1,by omega,rfl,rfl⟩ ?_
    exact AS.le_of (by refine Yd ?_;refine Yd ?_;refine Yd ?_;refine FrLe.cons rfl (AVle.own rfl) ?_;refine Yd ?_;exact FrLe.nil) (by (refine HpLe.cons (OwLe.row (by rw [e1,List.map_append,ea];rfl)) ?_);exact HpLe.nil)
   ·have ea : madeSq signs (L.getD k default) = ⟨madeQ (L.getD k default).q, madeP (L.getD k default).X 2 2 3⟩ := by rw [madeSq, madeA, if_neg hn]
    by_cases hneg:(madeQ (L.getD k default).q).num.sign<0
    ·obtain rfl:signs = true:=by
      cases signs
      ·exact absurd ⟨hneg,rfl⟩ hn
      ·rfl
     apply AWp.seq;apply Y1;refine Wm ?_;refine Wm ?_;refine Wq Qz.lenN ?_;refine Wq Qz.cmpT ?_;refine Wm ?_;refine Wg Qz.move ?_;refine Wg Qz.move ?_;refine Wg Qz.cmpT ?_;refine Wq Qz.pickT ?_;apply Y0;refine Ct ?_;apply Ys;apply AWp.seq;apply AWp.block;apply Y1;refine Wm ?_;refine Wm ?_;refine Wq Qz.indexN ?_;refine Wq Qz.fldE ?_;refine Wq Qz.ldE ?_;refine Wq (Qz.call (cm)) ?_;refine Al ?_;refine Sf ?_;apply Y0;apply AWp.seq;apply Y1;refine Wq Qz.ldD ?_;refine Wq (Qz.call (RSign_abs (madeQ (L.getD k default).q))) ?_;refine Wq Qz.cmpT ?_;refine Wm ?_;refine Wg Qz.move ?_;refine Wg Qz.not ?_;refine Wq Qz.pickT ?_;apply Y0;refine Cf ?_;apply Ys
     refine AWp.dr' (DrawOk.self (by kernel_rfl)) [[],[],[],[],[(39,2),(40,3)],[(41,4)],[(42,5)],[(43,6)],[(38,1),(44,7)],[(45,8)]] [[],[],[],[],[2,3],[2,3,4],[2,3,4,5],[2,3,4,5,6],[1,2,3,4,5,6,7],[1,2,3,4,5,6,7,8]] rfl (by kernel_rfl) (by kernel_rfl) (by kernel_rfl) ?_
     refine Xq Qz.move ?_;refine Xq Qz.ldD ?_;refine Xq Qz.move ?_;refine Xq Qz.move ?_;refine Xq Qz.indexN ?_;refine Xq Qz.fldE ?_;refine Xq Qz.loadEf ?_;refine Xq (Qz.call (cp)) ?_;(refine Hq rfl ?_;refine Bq.build (tab_of rfl) rfl rfl rfl ?_;(repeat ((first | refine ⟨_,PartOk.ag (ah rfl),?_⟩ | refine ⟨_,PartOk.one rfl (by first | exact One.ex_ rfl | exact One.sl | exact One.ep),?_⟩);refine ⟨_,rfl,?_⟩));refine ⟨_,rfl,?_⟩;refine ⟨_,rfl,?_⟩);(refine Xq (Bq.slice1 (ah rfl) (tab_of rfl) (tab_of rfl) rfl rfl rfl rfl rfl) ?_);refine ⟨_,rfl,?_⟩
     (refine Ap ?_);refine Wa ?_;apply AWl.nil;apply ABlock.normal;apply Yn;apply AWp.region;refine Wm ?_;refine Wq Qz.succ ?_;refine Wa ?_;apply AWl.nil
     refine ALoop.next (min L.length m - (k+1)) (by omega) ⟨k+1,by omega,rfl,rfl⟩ ?_
     exact AS.le_of (by refine Yd ?_;refine Yd ?_;refine Yd ?_;refine FrLe.cons rfl (AVle.own rfl) ?_;refine Yd ?_;exact FrLe.nil) (by (refine HpLe.cons (OwLe.row (by rw [e1,List.map_append,ea];rfl)) ?_);exact HpLe.nil)
    ·apply AWp.seq;apply Y1;refine Wm ?_;refine Wm ?_;refine Wq Qz.lenN ?_;refine Wq Qz.cmpT ?_;refine Wm ?_;refine Wg Qz.move ?_;refine Wg Qz.move ?_;refine Wg Qz.cmpT ?_;refine Wq Qz.pickT ?_;apply Y0;refine Ct ?_;apply Ys;apply AWp.seq;apply AWp.block;apply Y1;refine Wm ?_;refine Wm ?_;refine Wq Qz.indexN ?_;refine Wq Qz.fldE ?_;refine Wq Qz.ldE ?_;refine Wq (Qz.call (cm)) ?_;refine Al ?_;refine Sf ?_;apply Y0;apply AWp.seq;apply Y1;refine Wq Qz.ldD ?_;refine Wq (Qz.call (RSign_abs (madeQ (L.getD k default).q))) ?_;refine Wq Qz.cmpF ?_;refine Wm ?_;refine Ws ?_;refine Ws ?_;refine Wq Qz.pickF ?_;apply Y0;refine Cf ?_;apply Ys
     refine AWp.dr' (DrawOk.self (by kernel_rfl)) [[],[],[],[],[(39,2),(40,3)],[(41,4)],[(42,5)],[(43,6)],[(38,1),(44,7)],[(45,8)]] [[],[],[],[],[2,3],[2,3,4],[2,3,4,5],[2,3,4,5,6],[1,2,3,4,5,6,7],[1,2,3,4,5,6,7,8]] rfl (by kernel_rfl) (by kernel_rfl) (by kernel_rfl) ?_
     refine Xq Qz.move ?_;refine Xq Qz.ldD ?_;refine Xq Qz.move ?_;refine Xq Qz.move ?_;refine Xq Qz.indexN ?_;refine Xq Qz.fldE ?_;refine Xq Qz.loadEf ?_;refine Xq (Qz.call (cp)) ?_;(refine Hq rfl ?_;refine Bq.build (tab_of rfl) rfl rfl rfl ?_;(repeat ((first | refine ⟨_,PartOk.ag (ah rfl),?_⟩ | refine ⟨_,PartOk.one rfl (by first | exact One.ex_ rfl | exact One.sl | exact One.ep),?_⟩);refine ⟨_,rfl,?_⟩));refine ⟨_,rfl,?_⟩;refine ⟨_,rfl,?_⟩);(refine Xq (Bq.slice1 (ah rfl) (tab_of rfl) (tab_of rfl) rfl rfl rfl rfl rfl) ?_);refine ⟨_,rfl,?_⟩
     (refine Ap ?_);refine Wa ?_;apply AWl.nil;apply ABlock.normal;apply Yn;apply AWp.region;refine Wm ?_;refine Wq Qz.succ ?_;refine Wa ?_;apply AWl.nil
     refine ALoop.next (min L.length m - (k+1)) (by omega) ⟨k+1,by omega,rfl,rfl⟩ ?_
     exact AS.le_of (by refine Yd ?_;refine Yd ?_;refine Yd ?_;refine FrLe.cons rfl (AVle.own rfl) ?_;refine Yd ?_;exact FrLe.nil) (by (refine HpLe.cons (OwLe.row (by rw [e1,List.map_append,ea];rfl)) ?_);exact HpLe.nil)
  ·obtain rfl : k = min L.length m := by omega
   have e2:madeL signs L (min L.length m) = madeL signs L m:=by
    unfold madeL
    rw [show L.take (min L.length m) = L.take m from by
     rcases Nat.le_total L.length m with h | h
     ·rw [Nat.min_eq_left h,List.take_length,List.take_of_length_le h]
     ·rw [Nat.min_eq_right h]]
   rcases (show L.length≤m∨m<L.length by omega) with ht | ht
   ·apply AWp.seq;apply Y1;refine Wm ?_;refine Wm ?_;refine Wq Qz.lenN ?_;refine Wq Qz.cmpF ?_;refine Wm ?_;refine Ws ?_;refine Ws ?_;refine Ws ?_;refine Wq Qz.pickF ?_;apply Y0;refine Cf ?_;apply AWp.exit;apply AThen.exit;apply ALoop.exit;apply ABlock.hit;apply Yn;apply Y1;refine Wm ?_;refine Wa ?_;apply Y0;apply AWp.ret
    exact Fin.ret (Rets.of1 (ResV.tmp rfl rfl) (D.le.of_eq (by rw [← e2];rfl)))
   ·apply AWp.seq;apply Y1;refine Wm ?_;refine Wm ?_;refine Wq Qz.lenN ?_;refine Wq Qz.cmpT ?_;refine Wm ?_;refine Wg Qz.move ?_;refine Wg Qz.move ?_;refine Wg Qz.cmpF ?_;refine Wq Qz.pickT ?_;apply Y0;refine Cf ?_;apply AWp.exit;apply AThen.exit;apply ALoop.exit;apply ABlock.hit;apply Yn;apply Y1;refine Wm ?_;refine Wa ?_;apply Y0;apply AWp.ret
    exact Fin.ret (Rets.of1 (ResV.tmp rfl rfl) (D.le.of_eq (by rw [← e2];rfl)))
section
variable {P : Program} {s0:An} {n:Nat} {ops:Array Oper} {Q:Exit→AS→Prop} {rest:List Oper} {fr:List (Nat × AV)} {hp:List Ow} {ty:TypeId} {ps:String} {af:Array Edge}
theorem AWs.apRow {x y:Operand} {t T bytes id m b e c0 T0:Nat} {z z':Value} {d:TypeDesc} {fr':List (Nat × AV)} {hpf:Nat→List Ow} {L:List HE} {g0:Nat} (id2 i:Nat) (f:Nat→Rat) (len:Nat) (hx:AS.arg ⟨fr,hp⟩ x = .own id) (hh:hp[id]? = some (.row T 4 [])) (h0:0<len) (hy:AS.arg ⟨fr,hp⟩ y = .d (sX g0 len c0)) (hh2:hp[id2]? = some (.obj (heapO L))) (hi:L[i]? = some ⟨g0,T0,flatR f len⟩)
  (ht:Tab P t (.slice T) m b z') (hT:Tab P T d 4 bytes z) (hzs:z.cells.size = 4) (hd:Nat.blt e n = true) (hbytes:Nat.ble bytes 65536 = true) (hl:len≤1000000) (hf:downO id (slD T 4 []) fr = some fr') (hpl:PlainHp id hp) (hs:∀ g,setO hp id (.obj (heapO [⟨g,T,flatR f len⟩])) = some (hpf g))
  (h:∀ g c,len≤c→AWl P s0 n ops Q rest ⟨(e,.d (sX g len c)) :: fr',hpf g⟩):AWl P s0 n ops Q (⟨some e,.call { callee:=.builtin .append,args:=#[x,y],argTypes:=#[t,t] },ty,ps,af,none⟩ :: rest) ⟨fr,hp⟩:=by
 have hlr:((List.range len).map fun j=>ratC (f j)).length = len:=by simp
 have hb:bytes≤65536:=by simpa [Nat.ble_eq] using hbytes
 refine AWs.apX id2 i ((List.range len).map fun j=>ratC (f j)) hx hh (fun k hk=>?_) (by rw [hlr];exact h0) hy hlr.symm hh2 hi ht hT hzs hd ?_ (by rw [hlr];omega) hf hpl hs fun g c hc=>?_
 ·rw [hlr] at hk
  rw [List.getD_eq_getElem?_getD,List.getElem?_map,List.getElem?_range hk]
  exact ratC_length _
 ·rw [hlr]
  exact Nat.le_trans (Nat.mul_le_mul hl hb) (by decide)
 ·rw [hlr] at hc ⊢
  exact h g c hc
theorem AWs.apRowD {x y:Operand} {t T bytes id m b e:Nat} {z z':Value} {d:TypeDesc} {fr':List (Nat × AV)} {hpf:Nat→List Ow} (f:Nat→Rat) (len:Nat) (hx:AS.arg ⟨fr,hp⟩ x = .own id) (hh:hp[id]? = some (.row T 4 [])) (h0:0<len) (hy:asD hp (AS.arg ⟨fr,hp⟩ y) = some (rowR f len))
  (ht:Tab P t (.slice T) m b z') (hT:Tab P T d 4 bytes z) (hzs:z.cells.size = 4) (hd:Nat.blt e n = true) (hbytes:Nat.ble bytes 65536 = true) (hl:len≤1000000) (hf:downO id (slD T 4 []) fr = some fr') (hpl:PlainHp id hp) (hs:∀ g,setO hp id (.obj (heapO [⟨g,T,flatR f len⟩])) = some (hpf g))
  (h:∀ g c,len≤c→AWl P s0 n ops Q rest ⟨(e,.d (sX g len c)) :: fr',hpf g⟩):AWl P s0 n ops Q (⟨some e,.call { callee:=.builtin .append,args:=#[x,y],argTypes:=#[t,t] },ty,ps,af,none⟩ :: rest) ⟨fr,hp⟩:=by
 have hlr:((List.range len).map fun j=>ratC (f j)).length = len:=by simp
 have hb:bytes≤65536:=by simpa [Nat.ble_eq] using hbytes
 refine AWs.apD (r2:=(List.range len).map fun j=>ratC (f j)) hx hh (fun k hk=>?_) (by rw [hlr];exact h0) hy ht hT hzs hd ?_ (by rw [hlr];omega) hf hpl hs fun g c hc=>?_
 ·rw [hlr] at hk
  rw [List.getD_eq_getElem?_getD,List.getElem?_map,List.getElem?_range hk]
  exact ratC_length _
 ·rw [hlr]
  exact Nat.le_trans (Nat.mul_le_mul hl hb) (by decide)
 ·rw [hlr] at hc ⊢
  exact h g c hc
end
theorem AS.le.tr {x y z:AS} (h:AS.le x y) (h':AS.le y z):AS.le x z:=fun s0 n a w hs=>h' s0 n a w (h s0 n a w hs)
def redM (M : Nat→Nat→Rat) (p a q:Nat):Rat:=M a q - M p a / M p p*M p q
def redS (M : Nat→Nat→Rat) (p k i a q:Nat):Rat:=if a<k∨(a = k∧q<i) then redM M p a q else M a q
theorem redS_zero (M : Nat→Nat→Rat) (p:Nat):redS M p 0 0 = M:=by
 funext a q
 rw [redS,if_neg (by omega)]
theorem redS_at {M : Nat→Nat→Rat} {p k i:Nat}:redS M p k i k i = M k i:=by rw [redS,if_neg (by omega)]
theorem redS_step (M : Nat→Nat→Rat) (p k i:Nat):up2 (redS M p k i) k i (redS M p k i k i - M p k / M p p*M p i) = redS M p k (i+1):=by
 funext a q
 rw [redS_at]
 unfold up2 upX
 by_cases h:a = k
 ·subst h
  rw [if_pos rfl]
  by_cases hq:q = i
  ·subst hq
   rw [if_pos rfl,redS,if_pos (by omega)]
   rfl
  ·rw [if_neg hq]
   unfold redS
   by_cases hc:q<i
   ·rw [if_pos (by omega),if_pos (by omega)]
   ·rw [if_neg (by omega),if_neg (by omega)]
 ·rw [if_neg h]
  unfold redS
  by_cases hc:a<k
  ·rw [if_pos (by omega),if_pos (by omega)]
  ·rw [if_neg (by omega),if_neg (by omega)]
theorem redS_row {M : Nat→Nat→Rat} {p k n a q:Nat} (hq:q<n):redS M p k n a q = redS M p (k+1) 0 a q:=by
 unfold redS
 by_cases hc:a<k+1
 ·rw [if_pos (by omega),if_pos (by omega)]
 ·rw [if_neg (by omega),if_neg (by omega)]
theorem redS_end {M : Nat→Nat→Rat} {p n a q:Nat} (ha:a<n):redS M p n 0 a q = redM M p a q:=by
 rw [redS,if_pos (by omega)]
theorem redM_sz {M : Nat→Nat→Rat} {p S:Nat} (hM:∀ i j,RSz (M i j) S) (h0:M p p ≠ 0):∀ i j,RSz (redM M p i j) (S+(S+S+S)+1):=fun i j=>(hM i j).subQ (((hM p i).divQ (hM p p) h0).mul (hM p j))
theorem reduce_con (n p S b0 c0:Nat) (b c:Nat→Nat) (M:Nat→Nat→Rat) (hp:p<n) (hn:n≤100) (hM:∀ i j,RSz (M i j) S) (hS:S≤10000000) (h0:M p p ≠ 0) :
  Con Tryz.prog 54 [.d (sX b0 n c0),.d (ex (.int .i64 (p:Nat)))] [.obj (heapO (gridP b0 n n b c M))] [] (fun r hp'=>r = .d anyD∧∃ g,hp' = [.obj (heapO (gridP b0 n n b c (redM M p))),.dead,.obj (heapO [⟨g,54,flatR (M p) n⟩])]):=by
 have hnp:0<n:=by omega
 have hn1:n≤1000000:=by omega
 refine Con.intro1 Tryz.func54 rfl (callFunc_run Tryz.func54 (by kernel_rfl) (by kernel_rfl)) rfl fun s0 pv0=>?_
 rw [Tryz.ntmps54]
 apply Y1;refine AWs.b0 (tab_of rfl) (tab_of rfl) rfl rfl rfl rfl rfl ?_;refine Wm ?_;refine Wm ?_;refine Wq (Qs.ixX (k:=p) (ao rfl) (ao rfl) (tab_of rfl) (tab_of rfl) hp) ?_;refine Wq (Qs.ldH1 0 0 (ao rfl) rfl gridP_top (tab_of rfl) rfl (gridP_cell hp (Nat.le_refl n))) ?_;(refine AWs.apRow 0 (p+1) (M p) n (ao rfl) rfl hnp (ao rfl) rfl (gridP_row hp) (tab_of rfl) (tab_of rfl) rfl rfl rfl hn1 rfl (by first | ((repeat (first | exact PlainHp.nil | refine PlainHp.var ?_ | refine PlainHp.row ?_ | refine PlainHp.dead ?_ | refine PlainHp.obj ?_ | refine PlainHp.pin rfl ?_ | refine PlainHp.varA rfl ?_));done) | fail) (fun g=>rfl) fun g cg hcg=>?_);refine Wa ?_;apply Y0;apply Y1;refine Wm ?_;refine Wq (Qs.lenX (ao rfl) (tab_of rfl)) ?_;refine Wm ?_;apply Y0;apply AWp.block
 refine AWp.loop (fun mz σ=>∃ k,k≤n∧mz = n - k∧σ = ⟨[(0,.d (sX b0 n c0)),(1,.d (ex (.int .i64 (p:Nat)))),(4,.d (sX g n cg)),(15,.d (sX b0 n c0)),(16,.d (ex (.int .i64 (n:Nat)))),(17,.d (ex (.int .i64 (k:Nat))))],[.obj (heapO (gridP b0 n n b c (redS M p k 0))),.pin [(pv0,.own 0)],.obj (heapO [⟨g,54,flatR (M p) n⟩])]⟩) ?le ⟨0,by omega,rfl,rfl⟩ ?round
 case le=>exact AS.le_of (by refine Yd ?_;refine Yd ?_;refine Yd ?_;refine Yd ?_;refine Yd ?_;refine Yd ?_;exact FrLe.nil) (by refine HpLe.cons (OwLe.obj (by rw [redS_zero])) ?_;refine HpLe.cons (OwLe.pinB rfl) ?_;refine HpLe.cons (OwLe.obj rfl) ?_;exact HpLe.nil)
 case round =>
  rintro mz _ ⟨k,hk,rfl,rfl⟩
  by_cases hlt:k<n
  ·apply Y1;refine Wq Qz.cmpT ?_;apply Y0;apply AWp.seq;refine Ct ?_;apply Ys;apply AWp.seq;apply AWp.block;apply Y1;refine Wm ?_;refine Wa ?_;apply Y0;apply AWp.seq
   refine AWp.dr' (DrawOk.float (e:=11) (by kernel_rfl) (K4 (K4 (K4 (AddE.keep (AddE.add (AddE.keep AddE.nil)))))) (by kernel_rfl)) [[],[],[(21,0),(22,1)],[(23,2)],[],[],[(25,4),(26,5)],[(27,6)],[(24,3),(28,7)],[(29,8)],[(20,9)],[(20,9)],[]] [[],[],[0,1],[0,1,2],[],[],[4,5],[4,5,6],[0,1,2,3,4,5,6,7],[0,1,2,3,4,5,6,7,8],[0,1,2,3,4,5,6,7,8,9],[0,1,2,3,4,5,6,7,8,9],[]] rfl (by kernel_rfl) (by kernel_rfl) (by kernel_rfl) ?_
   refine Xq Qz.move ?_;refine Xq Qz.move ?_;refine Xq (Qs.ixX (k:=k) (ah rfl) (ah rfl) (tab_of rfl) (tab_of rfl) hlt) ?_;refine Xq (Qs.ldH (e:=⟨g,54,flatR (M p) n⟩) 2 0 (ah rfl) rfl rfl (tab_of rfl) rfl (PartAt.flat hlt)) ?_;refine Xq Qz.move ?_;refine Xq Qz.move ?_;refine Xq (Qs.ixX (k:=p) (ah rfl) (ah rfl) (tab_of rfl) (tab_of rfl) hp) ?_;refine Xq (Qs.ldH (e:=⟨g,54,flatR (M p) n⟩) 2 0 (ah rfl) rfl rfl (tab_of rfl) rfl (PartAt.flat hp)) ?_;refine Xq (Qz.call (Div_abs (M p k) (M p p) S S (hM p k) (hM p p) (by omega) (rat_num_ne h0))) ?_;refine Xq Qz.move ?_;refine Xq Qz.ext ?_;refine Xq Qz.ext ?_;refine Xn ?_;refine ⟨_,rfl,?_⟩
   refine Sf ?_;refine Wa ?_;apply AWl.nil;apply OnlyN.mk';apply Yn;apply Y1;refine Wm ?_;refine Wm ?_;refine Wq (Qs.ixX (k:=k) (ao rfl) (ao rfl) (tab_of rfl) (tab_of rfl) hlt) ?_;refine Wq (Qs.ldH1 0 0 (ao rfl) rfl gridP_top (tab_of rfl) rfl (gridP_cell hlt (Nat.le_refl n))) ?_;refine Wq (Qs.lenX (ao rfl) (tab_of rfl)) ?_;refine Wm ?_;apply Y0;apply AWp.block
   refine AWp.loop (fun mz σ=>∃ i,i≤n∧mz = n - i∧σ = ⟨[(0,.d (sX b0 n c0)),(1,.d (ex (.int .i64 (p:Nat)))),(4,.d (sX g n cg)),(15,.d (sX b0 n c0)),(16,.d (ex (.int .i64 (n:Nat)))),(17,.d (ex (.int .i64 (k:Nat)))),(5,.d (ex (.int .i64 (k:Nat)))),(6,.ptr 3 0),(35,.d (sX (b k) n (c k))),(36,.d (ex (.int .i64 (n:Nat)))),(37,.d (ex (.int .i64 (i:Nat))))],[.obj (heapO (gridP b0 n n b c (redS M p k i))),.pin [(pv0,.own 0)],.obj (heapO [⟨g,54,flatR (M p) n⟩]),.var 54 ((ratC (M p k / M p p)).map .d)]⟩) ?lei ⟨0,by omega,rfl,rfl⟩ ?roundi
   case lei=>exact AS.le_of (by refine Yd ?_;refine Yd ?_;refine Yd ?_;refine Yd ?_;refine Yd ?_;refine Yd ?_;refine Yd ?_;refine Yp ?_;refine Yd ?_;refine Yd ?_;refine Yd ?_;exact FrLe.nil) (by refine HpLe.cons (OwLe.obj rfl) ?_;refine HpLe.cons (OwLe.pinB rfl) ?_;refine HpLe.cons (OwLe.obj rfl) ?_;apply Yv;exact HpLe.nil)
   case roundi =>
    rintro mz _ ⟨i,hi,rfl,rfl⟩
    by_cases hlti:i<n
    ·have hz : RSz (redS M p k i k i) S := by rw [redS_at]; exact hM k i
     have hf:RSz (M p k / M p p) (S+S):=(hM p k).divQ (hM p p) h0
     apply Y1;refine Wq Qz.cmpT ?_;apply Y0;apply AWp.seq;refine Ct ?_;apply Ys;apply AWp.seq;apply AWp.block;apply Y1;refine Wm ?_;refine Wa ?_;apply Y0
     refine AWp.dr' (DrawOk.self (by kernel_rfl)) [[],[],[(40,0),(41,1)],[(42,2)],[],[],[],[(45,5),(46,6)],[(47,7)],[],[(48,8),(49,9)],[(50,10)],[],[],[],[(53,13),(54,14)],[(55,15)],[(52,12),(56,16)],[(51,11),(57,17)],[(43,3),(44,4)]] [[],[],[0,1],[0,1,2],[],[],[],[5,6],[5,6,7],[],[5,6,7,8,9],[5,6,7,8,9,10],[],[],[],[13,14],[13,14,15],[12,13,14,15,16],[5,6,7,8,9,10,11,12,13,14,15,16,17],[0,1,2,3,4,5,6,7,8,9,10,11,12,13,14,15,16,17,18]] rfl (by kernel_rfl) (by kernel_rfl) (by kernel_rfl) ?_
     refine Xq Qz.move ?_;refine Xq Qz.move ?_;refine Xq (Qs.ixX (k:=k) (ah rfl) (ah rfl) (tab_of rfl) (tab_of rfl) hlt) ?_;refine Xq (Qs.ldH1 0 0 (ah rfl) rfl gridP_top (tab_of rfl) rfl (gridP_cell hlt (Nat.le_refl n))) ?_;refine Xq Qz.move ?_;refine Xq Qz.move ?_;refine Xq Qz.move ?_;refine Xq (Qs.ixX (k:=k) (ah rfl) (ah rfl) (tab_of rfl) (tab_of rfl) hlt) ?_;refine Xq (Qs.ldH1 0 0 (ah rfl) rfl gridP_top (tab_of rfl) rfl (gridP_cell hlt (Nat.le_refl n))) ?_;refine Xq Qz.move ?_;refine Xq (Qs.ixX (k:=i) (ah rfl) (ah rfl) (tab_of rfl) (tab_of rfl) hlti) ?_;refine Xq (Qs.ldH (e:=⟨b k,54,flatR (redS M p k i k) n⟩) 0 (k+1) (ah rfl) rfl (gridP_row hlt) (tab_of rfl) rfl (PartAt.flat hlti)) ?_;refine Xq Qz.ldD ?_;refine Xq Qz.move ?_;refine Xq Qz.move ?_;refine Xq (Qs.ixX (k:=i) (ah rfl) (ah rfl) (tab_of rfl) (tab_of rfl) hlti) ?_;refine Xq (Qs.ldH (e:=⟨g,54,flatR (M p) n⟩) 2 0 (ah rfl) rfl rfl (tab_of rfl) rfl (PartAt.flat hlti)) ?_;refine Xq (Qz.call (Mul_abs (M p k / M p p) (M p i) (S+S) S hf (hM p i) (by omega))) ?_;refine Xq (Qz.call (Sub_abs (redS M p k i k i) (M p k / M p p*M p i) S (S+S+S) hz (hf.mul (hM p i)) (by omega))) ?_;refine Xq (Qs.ixX (k:=i) (ah rfl) (ah rfl) (tab_of rfl) (tab_of rfl) hlti) ?_;refine ⟨_,rfl,?_⟩
     refine AWs.stH (e:=⟨b k,54,flatR (redS M p k i k) n⟩) 0 (k+1) (ao rfl) (ao rfl) rfl (gridP_row hlt) (tab_of rfl) rfl (SetAt.flat hlti) rfl ?_;apply AWl.nil;apply ABlock.normal;apply Yn;apply AWp.region;refine Wq Qz.succ ?_;refine Wm ?_;apply AWl.nil
     refine ALoop.next (n - (i+1)) (by omega) ⟨i+1,by omega,rfl,rfl⟩ ?_
     exact AS.le_of (by refine Yd ?_;refine Yd ?_;refine Yd ?_;refine Yd ?_;refine Yd ?_;refine Yd ?_;refine Yd ?_;refine Yp ?_;refine Yd ?_;refine Yd ?_;refine Yd ?_;exact FrLe.nil) (by refine HpLe.cons (OwLe.obj (by rw [gridP_set hlt,redS_step])) ?_;refine HpLe.cons (OwLe.pinB rfl) ?_;refine HpLe.cons (OwLe.obj rfl) ?_;apply Yv;exact HpLe.nil)
    ·obtain rfl : n = i := by omega
     apply Y1;refine Wq Qz.cmpF ?_;apply Y0;apply AWp.seq;refine Cf ?_;apply AWp.exit;apply AThen.exit;apply ALoop.exit;apply ABlock.hit;apply ABlock.normal;apply Yn;apply AWp.region;refine Wq Qz.succ ?_;refine Wm ?_;apply AWl.nil
     refine ALoop.next (n - (k+1)) (by omega) ⟨k+1,by omega,rfl,rfl⟩ ?_
     exact AS.le_of (by refine Yd ?_;refine Yd ?_;refine Yd ?_;refine Yd ?_;refine Yd ?_;refine Yd ?_;exact FrLe.nil) (by refine HpLe.cons (OwLe.obj (by rw [gridP_congr fun a ha q hq=>redS_row hq])) ?_;refine HpLe.cons (OwLe.pinB rfl) ?_;refine HpLe.cons (OwLe.obj rfl) ?_;exact HpLe.nil)
  ·obtain rfl : n = k := by omega
   apply Y1;refine Wq Qz.cmpF ?_;apply Y0;apply AWp.seq;refine Cf ?_;apply AWp.exit;apply AThen.exit;apply ALoop.exit;apply ABlock.hit
   refine FinC.normal RetsA.none rfl ?_ rfl
   exact ⟨rfl,g,by rw [gridP_congr (M:=redS M p n 0) fun a ha q hq=>redS_end ha]⟩
def gramM (M : Nat→Nat→Rat):Nat→Nat→Nat→Rat
 | 0=>M
 | k+1=>if gramM M k k k = 0 then gramM M k else redM (gramM M k) k
def gramL (ms : List (Nat→Int)) (M:Nat→Nat→Rat) (n:Nat):Nat→List Sq
 | 0=>[]
 | k+1=>if gramM M k k k = 0 then gramL ms M n k else gramL ms M n k ++ [⟨gramM M k k k,sqR ms (gramM M k k) (gramM M k k k) n⟩]
theorem gramL_len (ms : List (Nat→Int)) (M:Nat→Nat→Rat) (n:Nat):∀ k,(gramL ms M n k).length≤k
 | 0=>Nat.le_refl _
 | k+1=>by
  have ih:=gramL_len ms M n k
  rw [gramL]
  split
  ·omega
  ·rw [List.length_append]
   exact Nat.succ_le_succ ih
def gramOk (M : Nat→Nat→Rat) (n k:Nat):Prop:=0≤gramM M k k k∧(gramM M k k k = 0→∀ j,j<n→gramM M k k j = 0)
def gramS (S : Nat):Nat→Nat
 | 0=>S
 | k+1=>gramS S k+(gramS S k+gramS S k+gramS S k)+1
theorem gramS_mono (S : Nat):∀ {k n:Nat},k≤n→gramS S k≤gramS S n
  | k, 0, h => by obtain rfl : k = 0 := by omega
                  exact Nat.le_refl _
  | k,n+1,h=>by
    rcases Nat.lt_or_ge n k with h' | h'
    · obtain rfl : k = n + 1 := by omega
      exact Nat.le_refl _
    · refine Nat.le_trans (gramS_mono S h') ?_
      rw [gramS]
      omega
theorem gramM_sz {M : Nat→Nat→Rat} {S:Nat} (hM:∀ i j,RSz (M i j) S):∀ k i j,RSz (gramM M k i j) (gramS S k)
 | 0,i,j=>hM i j
 | k+1,i,j=>by
  have ih:=gramM_sz hM k
  rw [gramM,gramS]
  split
  ·exact (ih i j).mono (by omega)
  ·rename_i h
   exact redM_sz ih h i j
theorem gridP_nil {b0 n:Nat} {b c:Nat→Nat} {M:Nat→Nat→Rat}:[⟨b0,63,List.replicate n (ex (.slice none 0 0))⟩] = gridP b0 n 0 b c M:=by
 simp only [gridP,List.range_zero,List.map_nil]
 congr 2
 rw [List.map_congr_left (g:=fun _=>ex (.slice none 0 0)) fun i _=>if_neg (Nat.not_lt_zero i),List.map_const',List.length_range]
theorem sign_pos {q : Rat} (h:0≤q) (h0:q ≠ 0):q.num.sign = 1:=by
 have h1:=Rat.num_nonneg.2 h
 have h2:=rat_num_ne h0
 exact Int.sign_eq_one_of_pos (by omega)
section
variable {P : Program} {hp:List Ow} {arg:Operand→AV} {dd:Option Tmp} {ty:TypeId} {ps:String} {af:Array Edge} {gd:Option (Nat × Bool)}
theorem Qs.lenM {x : Operand} {t:TypeId} {e n b k:Nat} {z:Value} {ms:List (Nat→Int)} (hx:asD hp (arg x) = some (mmD ms)) (hl:ms.length = k) (ht:Tab P t (.slice e) n b z):Quiet P hp ⟨dd,.call { callee:=.builtin .len,args:=#[x],argTypes:=#[t] },ty,ps,af,gd⟩ arg (.d (ex (.int .i64 (k:Nat)))):=by
 subst hl
 have:=Qs.lenN (dd:=dd) (ty:=ty) (ps:=ps) (af:=af) (gd:=gd) hx ht
 simpa using this
end
theorem sign_neg {q : Rat} (h:q<0):q.num.sign = -1:=by
 have h1:¬ 0≤q.num:=fun h2=>absurd (Rat.num_nonneg.1 h2) (Rat.not_le.2 h)
 exact Int.sign_eq_neg_one_of_neg (by omega)
theorem gram_any (n S:Nat) (e:Int) (ms:List (Nat→Int)) (M:Nat→Nat→Rat) (hn0:0<n) (hn:n≤100) (hl:ms.length = n) (hm:∀ m∈ms,In8 m 0 e) (he:e≤65535) (hM:∀ i j,RSz (M i j) S) (hS:gramS S n≤10000000) (hsy:∀ i,i<n→∀ j,j<i→M i j = M j i) (z:Nat) (hzn:z≤n) (hok:∀ k,k<z→gramOk M n k) (r:D) (hend:(z = n∧r = tupD [sqD (gramL ms M n n),ex (.int .i64 0)])∨(z<n∧r = tupD [sqD [],ex (.int .i64 280)]∧(gramM M z z z<0∨gramM M z z z = 0∧∃ w,w<n∧(∀ j,j<w→gramM M z z j = 0)∧gramM M z z w ≠ 0))) :
  Abs Tryz.prog 17 [mmD ms,matD n n M] r:=by
 have hS0:S≤10000000:=Nat.le_trans (gramS_mono S (Nat.zero_le n)) hS
 have hn1:n≤1000000:=by omega
 refine Ab Tryz.func17 fun s0=>?_
 rw [Tryz.ntmps17]
 apply Y1;refine Wa ?_;refine Wa ?_;apply Y0;apply Y1;refine Wm ?_;refine Wq (Qs.lenM rfl hl (tab_of rfl)) ?_;refine Wa ?_;apply Y0;apply AWp.seq;apply Y1;refine Wm ?_;refine Wq (Qz.call (mValid_abs n n M S hM (by omega) (by omega) (by omega))) ?_;refine Wq Qz.not ?_;refine Wm ?_;refine Wg Qz.move ?_;refine Wg (Qs.lenR rfl (tab_of rfl)) ?_;refine Wg Qz.move ?_;refine Wg Qz.cmpF ?_;refine Wq Qz.pickF ?_;refine Wm ?_;refine Wg Qz.move ?_;refine Wg Qz.cmpT ?_;refine Wg Qz.move ?_;refine Wg Qz.move ?_;refine Wg (Qs.indexR (k:=0) rfl (ao rfl) (tab_of rfl) (tab_of rfl) rfl hn0) ?_;refine Wg Qz.ldE1 ?_;refine Wg (Qs.lenR rfl (tab_of rfl)) ?_;refine Wg Qz.move ?_;refine Wg Qz.cmpF ?_;refine Wg Qz.pickT ?_;refine Wq Qz.pickF ?_;apply Y0;refine Cf ?_;apply Ys;apply AWp.seq;apply Y1;refine Wm ?_;refine Wq (Qz.call (symT_abs n M S hM (by omega) (by omega) hsy)) ?_;refine Wq Qz.not ?_;apply Y0;refine Cf ?_;apply Ys;apply Y1;refine Wm ?_;refine AWs.mkH (ao rfl) (ao rfl) (tab_of rfl) (tab_of rfl) rfl rfl hn1 rfl rfl rfl rfl (fun g=>rfl) fun b0=>?_;refine Wa ?_;apply Y0;apply AWp.seq;apply Y1;refine Wm ?_;refine Wq (Qs.lenR rfl (tab_of rfl)) ?_;refine Wm ?_;apply Y0;apply AWp.block
 refine AWp.loop (fun mz σ=>∃ k,k≤n∧mz = n - k∧∃ b c,σ = ⟨[(0,.d (mmD ms)),(6,.d (ex (.int .i64 (n:Nat)))),(7,.d (sX b0 n n)),(43,.d (matD n n M)),(44,.d (ex (.int .i64 (n:Nat)))),(45,.d (ex (.int .i64 (k:Nat))))],[.obj (heapO (gridP b0 n k b c M))]⟩) ?le ⟨0,by omega,rfl,fun _=>0,fun _=>0,rfl⟩ ?round
 case le=>exact AS.le_of (by refine Yd ?_;refine Yd ?_;refine Yd ?_;refine Yd ?_;refine Yd ?_;refine Yd ?_;exact FrLe.nil) (by refine HpLe.cons (OwLe.obj (by rw [gridP_nil])) ?_;exact HpLe.nil)
 case round =>
  rintro mz _ ⟨k,hk,rfl,b,c,rfl⟩
  by_cases hlt:k<n
  ·apply AWp.seq; apply AWp.region; refine Wq Qz.cmpT ?_; apply AWl.nil; apply Yn; apply AWp.seq; refine Ct ?_; apply AWp.skip; apply Yn; apply AWp.seq; apply AWp.block; apply AWp.seq; apply AWp.region; refine Wm ?_; refine Wq (Qs.indexR (k := k) rfl (ao rfl) (tab_of rfl) (tab_of rfl) rfl hlt) ?_; refine Wq Qz.ldE1 ?_; refine Wa ?_; refine Wa ?_; apply AWl.nil; apply Yn; apply AWp.region; refine Wm ?_; refine Wm ?_; refine AWs.b0 (tab_of rfl) (tab_of rfl) rfl rfl rfl rfl rfl ?_; refine Wm ?_; (refine AWs.apRowD (M k) n (ao rfl) rfl hn0 rfl (tab_of rfl) (tab_of rfl) rfl rfl rfl hn1 rfl (by first | ((repeat (first | exact PlainHp.nil | refine PlainHp.var ?_ | refine PlainHp.row ?_ | refine PlainHp.dead ?_ | refine PlainHp.obj ?_ | refine PlainHp.pin rfl ?_ | refine PlainHp.varA rfl ?_)); done) | fail) (fun g => rfl) fun g cg hcg => ?_); refine Wq (Qs.ixX (k := k) (ao rfl) (ao rfl) (tab_of rfl) (tab_of rfl) hlt) ?_; refine AWs.stH1 0 0 (ao rfl) (ao rfl) rfl gridP_top (tab_of rfl) (One.ex_ rfl) (gridP_next hlt) rfl ?_; apply AWl.nil; apply ABlock.normal; apply Yn; apply AWp.region; refine Wq Qz.succ ?_; refine Wm ?_; apply AWl.nil
   refine ALoop.next (n - (k+1)) (by omega) ⟨k+1,by omega,rfl,upX b k g,upX c k cg,rfl⟩ ?_
   refine AS.le.tr (AS.mergeH 0 1 (by decide) rfl rfl rfl rfl) ?_
   exact AS.le_of (by refine Yd ?_;refine Yd ?_;refine Yd ?_;refine Yd ?_;refine Yd ?_;refine Yd ?_;exact FrLe.nil) (by refine HpLe.cons (OwLe.obj (by rw [gridP_snoc])) ?_;exact HpLe.nil)
  ·obtain rfl : n = k := by omega
   apply Y1;refine Wq Qz.cmpF ?_;apply Y0;apply AWp.seq;refine Cf ?_;apply AWp.exit;apply AThen.exit;apply ALoop.exit;apply ABlock.hit;apply Yn;apply Y1;refine Wa ?_;apply Y0;apply AWp.seq;apply Y1;refine Wm ?_;refine Wm ?_;apply Y0;apply AWp.block
   refine AWp.nilOwn 10 56 5 rfl (by decide) (by decide) rfl rfl ?_
   refine AWp.loop (fun mz σ=>∃ k,k≤z∧mz = z - k∧σ = ⟨[(0,.d (mmD ms)),(6,.d (ex (.int .i64 (n:Nat)))),(7,.d (sX b0 n n)),(10,.own 1),(57,.d (ex (.int .i64 (n:Nat)))),(58,.d (ex (.int .i64 (k:Nat))))],[.obj (heapO (gridP b0 n n b c (gramM M k))),.row 56 5 ((gramL ms M n k).map sqC)]⟩) ?le ⟨0,by omega,rfl,rfl⟩ ?round
   case le=>exact AS.le_of (by refine Yd ?_;refine Yd ?_;refine Yd ?_;refine FrLe.cons rfl (AVle.own rfl) ?_;refine Yd ?_;refine Yd ?_;exact FrLe.nil) (by refine HpLe.cons (OwLe.obj rfl) ?_;apply Yr;exact HpLe.nil)
   case round =>
    rintro mz _ ⟨k,hk,rfl,rfl⟩
    by_cases hlt:k<z
    ·have hlt0:=hlt
     have hlt:k<n:=by omega
     have hG:=gramM_sz hM k;have hL:=gramL_len ms M n k
     have hSk:gramS S k≤10000000:=Nat.le_trans (gramS_mono S (show k≤n by omega)) hS
     by_cases hz:gramM M k k k = 0
     ·have hs : (gramM M k k k).num.sign = 0 := by rw [hz]; rfl
      have hrow:=(hok k hlt0).2 hz
      have e1:gramM M (k+1) = gramM M k:=by rw [gramM,if_pos hz]
      have e2:gramL ms M n (k+1) = gramL ms M n k:=by rw [gramL,if_pos hz]
      apply Y1;refine Wq Qz.cmpT ?_;apply Y0;apply AWp.seq;refine Ct ?_;apply Ys;apply AWp.seq;apply AWp.block;apply Y1;refine Wm ?_;refine Wa ?_;apply Y0;apply Y1;refine Wm ?_;refine Wm ?_;refine Wq (Qs.ixX (k:=k) (ao rfl) (ao rfl) (tab_of rfl) (tab_of rfl) hlt) ?_;refine Wq (Qs.ldH1 0 0 (ao rfl) rfl gridP_top (tab_of rfl) rfl (gridP_cell hlt (Nat.le_refl n))) ?_;refine Wm ?_;refine Wq (Qs.ixX (k:=k) (ao rfl) (ao rfl) (tab_of rfl) (tab_of rfl) hlt) ?_;refine Wq (Qs.ldH 0 (k+1) (e:=⟨b k,54,flatR (gramM M k k) n⟩) (ao rfl) rfl (gridP_row hlt) (tab_of rfl) rfl (PartAt.flat hlt)) ?_;refine Al ?_;refine Sf ?_;apply Y0;apply Y1;refine Wq Qz.ldD ?_;refine Wq (Qz.call (Sign_abs (gramM M k k k))) ?_;apply Y0;apply AWp.block;apply Y1;refine Wq Qz.cmpF ?_;refine Wa ?_;apply Y0;refine Cf ?_;apply Y1;refine Wq Qz.cmpT ?_;refine Wa ?_;apply Y0;refine Ct ?_;apply Y1;refine Wm ?_;refine Wm ?_;refine Wq (Qs.ixX (k:=k) (ao rfl) (ao rfl) (tab_of rfl) (tab_of rfl) hlt) ?_;refine Wq (Qs.ldH1 0 0 (ao rfl) rfl gridP_top (tab_of rfl) rfl (gridP_cell hlt (Nat.le_refl n))) ?_;refine Wq (Qs.lenX (ao rfl) (tab_of rfl)) ?_;refine Wm ?_;apply Y0;apply AWp.block
      refine AWp.loop (fun mz σ=>∃ i,i≤n∧mz = n - i∧σ = ⟨[(0,.d (mmD ms)),(6,.d (ex (.int .i64 (n:Nat)))),(7,.d (sX b0 n n)),(10,.own 1),(57,.d (ex (.int .i64 (n:Nat)))),(58,.d (ex (.int .i64 (k:Nat)))),(90,.d (sX (b k) n (c k))),(91,.d (ex (.int .i64 (n:Nat)))),(92,.d (ex (.int .i64 (i:Nat))))],[.obj (heapO (gridP b0 n n b c (gramM M k))),.row 56 5 ((gramL ms M n k).map sqC)]⟩) ?lei ⟨0,by omega,rfl,rfl⟩ ?roundi
      case lei=>exact AS.le_of (by refine Yd ?_;refine Yd ?_;refine Yd ?_;refine FrLe.cons rfl (AVle.own rfl) ?_;refine Yd ?_;refine Yd ?_;refine Yd ?_;refine Yd ?_;refine Yd ?_;exact FrLe.nil) (by refine HpLe.cons (OwLe.obj rfl) ?_;apply Yr;exact HpLe.nil)
      case roundi =>
       rintro mz _ ⟨i,hi,rfl,rfl⟩
       by_cases hlti:i<n
       ·have hs2 : (gramM M k k i).num.sign = 0 := by rw [hrow i hlti]; rfl
        apply Y1;refine Wq Qz.cmpT ?_;apply Y0;apply AWp.seq;refine Ct ?_;apply Ys;apply AWp.seq;apply AWp.block;apply Y1;refine Wq (Qs.ixX (k:=i) (ao rfl) (ao rfl) (tab_of rfl) (tab_of rfl) hlti) ?_;refine Wq (Qs.ldH 0 (k+1) (e:=⟨b k,54,flatR (gramM M k k) n⟩) (ao rfl) rfl (gridP_row hlt) (tab_of rfl) rfl (PartAt.flat hlti)) ?_;refine Al ?_;refine Sf ?_;apply Y0;apply Y1;refine Wq Qz.ldD ?_;refine Wq (Qz.call (Sign_abs (gramM M k k i))) ?_;refine Wq Qz.cmpF ?_;apply Y0;refine Cf ?_;apply AWp.skip;apply ABlock.normal;apply Yn;apply AWp.region;refine Wq Qz.succ ?_;refine Wm ?_;apply AWl.nil
        refine ALoop.next (n - (i+1)) (by omega) ⟨i+1,by omega,rfl,rfl⟩ ?_
        exact AS.le_of (by refine Yd ?_;refine Yd ?_;refine Yd ?_;refine FrLe.cons rfl (AVle.own rfl) ?_;refine Yd ?_;refine Yd ?_;refine Yd ?_;refine Yd ?_;refine Yd ?_;exact FrLe.nil) (by refine HpLe.cons (OwLe.obj rfl) ?_;apply Yr;exact HpLe.nil)
       ·obtain rfl : n = i := by omega
        apply Y1;refine Wq Qz.cmpF ?_;apply Y0;apply AWp.seq;refine Cf ?_;apply AWp.exit;apply AThen.exit;apply ALoop.exit;apply ABlock.hit;apply ABlock.normal;apply ABlock.normal;apply Yn;apply AWp.region;refine Wq Qz.succ ?_;refine Wm ?_;apply AWl.nil
        refine ALoop.next (z - (k+1)) (by omega) ⟨k+1,by omega,rfl,rfl⟩ ?_
        exact AS.le_of (by refine Yd ?_;refine Yd ?_;refine Yd ?_;refine FrLe.cons rfl (AVle.own rfl) ?_;refine Yd ?_;refine Yd ?_;exact FrLe.nil) (by refine HpLe.cons (OwLe.obj (by rw [e1])) ?_;refine HpLe.cons (OwLe.row (by rw [e2])) ?_;exact HpLe.nil)
     ·have hs:(gramM M k k k).num.sign = 1:=sign_pos (hok k hlt0).1 hz
      have e1:gramM M (k+1) = redM (gramM M k) k:=by rw [gramM,if_neg hz]
      have e2:gramL ms M n (k+1) = gramL ms M n k ++ [⟨gramM M k k k,sqR ms (gramM M k k) (gramM M k k k) n⟩]:=by rw [gramL,if_neg hz]
      apply Y1;refine Wq Qz.cmpT ?_;apply Y0;apply AWp.seq;refine Ct ?_;apply Ys;apply AWp.seq;apply AWp.block;apply Y1;refine Wm ?_;refine Wa ?_;apply Y0;apply Y1;refine Wm ?_;refine Wm ?_;refine Wq (Qs.ixX (k:=k) (ao rfl) (ao rfl) (tab_of rfl) (tab_of rfl) hlt) ?_;refine Wq (Qs.ldH1 0 0 (ao rfl) rfl gridP_top (tab_of rfl) rfl (gridP_cell hlt (Nat.le_refl n))) ?_;refine Wm ?_;refine Wq (Qs.ixX (k:=k) (ao rfl) (ao rfl) (tab_of rfl) (tab_of rfl) hlt) ?_;refine Wq (Qs.ldH 0 (k+1) (e:=⟨b k,54,flatR (gramM M k k) n⟩) (ao rfl) rfl (gridP_row hlt) (tab_of rfl) rfl (PartAt.flat hlt)) ?_;refine Al ?_;refine Sf ?_;apply Y0;apply Y1;refine Wq Qz.ldD ?_;refine Wq (Qz.call (Sign_abs (gramM M k k k))) ?_;apply Y0;apply AWp.block;apply Y1;refine Wq Qz.cmpF ?_;refine Wa ?_;apply Y0;refine Cf ?_;apply Y1;refine Wq Qz.cmpF ?_;refine Wa ?_;apply Y0;refine Cf ?_;apply AWp.seq
      refine AWp.dr' (DrawOk.float (e:=0) (by kernel_rfl) (K4 (AddE.keep (AddE.keep (AddE.keep (AddE.add (AddE.keep (AddE.keep (AddE.keep AddE.nil)))))))) (by kernel_rfl)) [[],[],[],[],[(72,2),(73,3)],[(74,4)],[]] [[],[],[],[],[2,3],[2,3,4],[]] rfl (by kernel_rfl) (by kernel_rfl) (by kernel_rfl) ?_
      refine Xq Qz.move ?_;refine Xq Qz.move ?_;refine Xq Qz.move ?_;refine Xq Qz.move ?_;refine Xq (Qs.ixX (k:=k) (ah rfl) (ah rfl) (tab_of rfl) (tab_of rfl) hlt) ?_;refine Xq (Qs.ldH1 0 0 (ah rfl) rfl gridP_top (tab_of rfl) rfl (gridP_cell hlt (Nat.le_refl n))) ?_;refine Xq Qz.ldD ?_;refine ⟨_,rfl,?_⟩
      refine AWs.con [0] [] (square_con ms (gramM M k k) (gramM M k k k) n (gramS S k) e hl hn hm he (hG k) (hG k k) hz hSk _ (k+1) (b k) (c k) (gridP_row hlt)) (by first | exact Or.inl rfl | exact Or.inr ⟨by decide,rfl,by repeat (first | exact AvoidR.nil | refine AvoidR.give rfl ?_ | refine AvoidR.dead ?_ | refine AvoidR.row ?_ | refine AvoidR.obj ?_ | refine AvoidR.varD ?_ | refine AvoidR.varA rfl ?_ | refine AvoidR.pin rfl ?_)⟩) rfl rfl (by first | exact .inl ⟨rfl,rfl⟩ | exact .inr ⟨rfl,rfl⟩) (by repeat (first | exact ArgsC.nil | refine ArgsC.d rfl (D.le.refl _) ?_ | refine ArgsC.av rfl rfl ?_)) (by decide) (by repeat (first | exact SelR.nil | refine SelR.var rfl ?_ | refine SelR.obj rfl ?_ | refine SelR.row rfl ?_ | refine SelR.varA rfl rfl rfl ?_)) (by repeat (first | exact trivial | refine ⟨⟨_,_,rfl⟩,?_⟩)) rfl ?_
      rintro _ _ ⟨rfl,T1,T2,c1,c2,rfl⟩
      refine ⟨_,_,_,(by first | exact AVRen.d | exact AVRen.own rfl | exact AVRen.ptr rfl | exact AVRen.fn rfl),(by repeat (first | exact SetR.nil | (apply SetR.cons;(first | exact OwRen.dead | exact OwRen.varD | exact OwRen.obj | exact OwRen.row | exact OwRen.varA rfl);exact rfl))),(by repeat (first | exact AppR.nil | (apply AppR.cons;(first | exact OwRen.dead | exact OwRen.varD | exact OwRen.obj | exact OwRen.row | exact OwRen.varA rfl);exact rfl))),?_⟩
      refine Wq (Bq.slice1 (ao rfl) (tab_of rfl) (tab_of rfl) rfl rfl rfl rfl rfl) ?_;(refine Ap ?_);refine Wa ?_;apply AWl.nil;apply OnlyN.mk';apply Yn;apply AWp.region;refine Wm ?_;refine Wm ?_
      refine AWs.con [0] [] (reduce_con n k (gramS S k) b0 n b c (gramM M k) hlt hn hG hSk hz) (by first | exact Or.inl rfl | exact Or.inr ⟨by decide,rfl,by repeat (first | exact AvoidR.nil | refine AvoidR.give rfl ?_ | refine AvoidR.dead ?_ | refine AvoidR.row ?_ | refine AvoidR.obj ?_ | refine AvoidR.varD ?_ | refine AvoidR.varA rfl ?_ | refine AvoidR.pin rfl ?_)⟩) rfl rfl (by first | exact .inl ⟨rfl,rfl⟩ | exact .inr ⟨rfl,rfl⟩) (by repeat (first | exact ArgsC.nil | refine ArgsC.d rfl (D.le.refl _) ?_ | refine ArgsC.av rfl rfl ?_)) (by decide) (by repeat (first | exact SelR.nil | refine SelR.var rfl ?_ | refine SelR.obj rfl ?_ | refine SelR.row rfl ?_ | refine SelR.varA rfl rfl rfl ?_)) (by repeat (first | exact trivial | refine ⟨⟨_,_,rfl⟩,?_⟩)) rfl ?_
      rintro _ _ ⟨rfl,g2,rfl⟩
      refine ⟨_,_,_,(by first | exact AVRen.d | exact AVRen.own rfl | exact AVRen.ptr rfl | exact AVRen.fn rfl),(by repeat (first | exact SetR.nil | (apply SetR.cons;(first | exact OwRen.dead | exact OwRen.varD | exact OwRen.obj | exact OwRen.row | exact OwRen.varA rfl);exact rfl))),(by repeat (first | exact AppR.nil | (apply AppR.cons;(first | exact OwRen.dead | exact OwRen.varD | exact OwRen.obj | exact OwRen.row | exact OwRen.varA rfl);exact rfl))),?_⟩
      apply AWl.nil;apply ABlock.normal;apply ABlock.normal;apply Yn;apply AWp.region;refine Wq Qz.succ ?_;refine Wm ?_;apply AWl.nil
      refine ALoop.next (z - (k+1)) (by omega) ⟨k+1,by omega,rfl,rfl⟩ ?_
      exact AS.le_of (by refine Yd ?_;refine Yd ?_;refine Yd ?_;refine FrLe.cons rfl (AVle.own rfl) ?_;refine Yd ?_;refine Yd ?_;exact FrLe.nil) (by refine HpLe.cons (OwLe.obj (by rw [e1])) ?_;(refine HpLe.cons (OwLe.row (by rw [e2,List.map_append];rfl)) ?_);exact HpLe.nil)
    ·obtain rfl : z = k := by omega
     rcases hend with ⟨rfl,rfl⟩ | ⟨hz1,rfl,hneg | ⟨hneg,w,hw,hrow,hbad⟩⟩
     ·apply Y1;refine Wq Qz.cmpF ?_;apply Y0;apply AWp.seq;refine Cf ?_;apply AWp.exit;apply AThen.exit;apply ALoop.exit;apply ABlock.hit;apply Yn;apply Y1;refine Wm ?_;refine Wa ?_;refine Wa ?_;apply Y0;apply AWp.ret
      exact Fin.ret (Rets.of2 (ResV.tmp rfl rfl) (ResV.tmp rfl rfl) (D.le.tup2 (D.le.refl _) (D.le.refl _)))
     ·have hs:(gramM M z z z).num.sign = -1:=sign_neg hneg
      apply Y1;refine Wq Qz.cmpT ?_;apply Y0;apply AWp.seq;refine Ct ?_;apply Ys;apply AWp.seq;apply AWp.block;apply Y1;refine Wm ?_;refine Wa ?_;apply Y0;apply Y1;refine Wm ?_;refine Wm ?_;refine Wq (Qs.ixX (k:=z) (ao rfl) (ao rfl) (tab_of rfl) (tab_of rfl) hz1) ?_;refine Wq (Qs.ldH1 0 0 (ao rfl) rfl gridP_top (tab_of rfl) rfl (gridP_cell hz1 (Nat.le_refl n))) ?_;refine Wm ?_;refine Wq (Qs.ixX (k:=z) (ao rfl) (ao rfl) (tab_of rfl) (tab_of rfl) hz1) ?_;refine Wq (Qs.ldH 0 (z+1) (e:=⟨b z,54,flatR (gramM M z z) n⟩) (ao rfl) rfl (gridP_row hz1) (tab_of rfl) rfl (PartAt.flat hz1)) ?_;refine Al ?_;refine Sf ?_;apply Y0;apply Y1;refine Wq Qz.ldD ?_;refine Wq (Qz.call (Sign_abs (gramM M z z z))) ?_;apply Y0;apply AWp.block;apply Y1;refine Wq Qz.cmpT ?_;refine Wa ?_;apply Y0;refine Ct ?_;apply Y1;refine Wa ?_;refine Wa ?_;apply Y0;apply AWp.ret;apply ABlock.ret;apply ABlock.ret;apply AThen.ret;apply ALoop.ret;apply ABlock.ret;apply AThen.ret
      exact Fin.ret (Rets.of2 (ResV.tmp rfl rfl) (ResV.tmp rfl rfl) (D.le.tup2 (D.le_nil) (D.le.refl _)))
     ·have hs : (gramM M z z z).num.sign = 0 := by rw [hneg]; rfl
      apply Y1;refine Wq Qz.cmpT ?_;apply Y0;apply AWp.seq;refine Ct ?_;apply Ys;apply AWp.seq;apply AWp.block;apply Y1;refine Wm ?_;refine Wa ?_;apply Y0;apply Y1;refine Wm ?_;refine Wm ?_;refine Wq (Qs.ixX (k:=z) (ao rfl) (ao rfl) (tab_of rfl) (tab_of rfl) hz1) ?_;refine Wq (Qs.ldH1 0 0 (ao rfl) rfl gridP_top (tab_of rfl) rfl (gridP_cell hz1 (Nat.le_refl n))) ?_;refine Wm ?_;refine Wq (Qs.ixX (k:=z) (ao rfl) (ao rfl) (tab_of rfl) (tab_of rfl) hz1) ?_;refine Wq (Qs.ldH 0 (z+1) (e:=⟨b z,54,flatR (gramM M z z) n⟩) (ao rfl) rfl (gridP_row hz1) (tab_of rfl) rfl (PartAt.flat hz1)) ?_;refine Al ?_;refine Sf ?_;apply Y0;apply Y1;refine Wq Qz.ldD ?_;refine Wq (Qz.call (Sign_abs (gramM M z z z))) ?_;apply Y0;apply AWp.block;apply Y1;refine Wq Qz.cmpF ?_;refine Wa ?_;apply Y0;refine Cf ?_;apply Y1;refine Wq Qz.cmpT ?_;refine Wa ?_;apply Y0;refine Ct ?_;apply Y1;refine Wm ?_;refine Wm ?_;refine Wq (Qs.ixX (k:=z) (ao rfl) (ao rfl) (tab_of rfl) (tab_of rfl) hz1) ?_;refine Wq (Qs.ldH1 0 0 (ao rfl) rfl gridP_top (tab_of rfl) rfl (gridP_cell hz1 (Nat.le_refl n))) ?_;refine Wq (Qs.lenX (ao rfl) (tab_of rfl)) ?_;refine Wm ?_;apply Y0;apply AWp.block
      refine AWp.loop (fun mz σ=>∃ i,i≤w∧mz = w - i∧σ = ⟨[(0,.d (mmD ms)),(6,.d (ex (.int .i64 (n:Nat)))),(7,.d (sX b0 n n)),(10,.own 1),(57,.d (ex (.int .i64 (n:Nat)))),(58,.d (ex (.int .i64 (z:Nat)))),(90,.d (sX (b z) n (c z))),(91,.d (ex (.int .i64 (n:Nat)))),(92,.d (ex (.int .i64 (i:Nat))))],[.obj (heapO (gridP b0 n n b c (gramM M z))),.row 56 5 ((gramL ms M n z).map sqC)]⟩) ?lei ⟨0,by omega,rfl,rfl⟩ ?roundi
      case lei=>exact AS.le_of (by refine Yd ?_;refine Yd ?_;refine Yd ?_;refine FrLe.cons rfl (AVle.own rfl) ?_;refine Yd ?_;refine Yd ?_;refine Yd ?_;refine Yd ?_;refine Yd ?_;exact FrLe.nil) (by refine HpLe.cons (OwLe.obj rfl) ?_;apply Yr;exact HpLe.nil)
      case roundi =>
       rintro mz _ ⟨i,hi,rfl,rfl⟩
       by_cases hlti:i<w
       ·have hin : i < n := by omega
        have hs2:(gramM M z z i).num.sign = 0:=by rw [hrow i hlti];rfl
        apply Y1;refine Wq Qz.cmpT ?_;apply Y0;apply AWp.seq;refine Ct ?_;apply Ys;apply AWp.seq;apply AWp.block;apply Y1;refine Wq (Qs.ixX (k:=i) (ao rfl) (ao rfl) (tab_of rfl) (tab_of rfl) hin) ?_;refine Wq (Qs.ldH 0 (z+1) (e:=⟨b z,54,flatR (gramM M z z) n⟩) (ao rfl) rfl (gridP_row hz1) (tab_of rfl) rfl (PartAt.flat hin)) ?_;refine Al ?_;refine Sf ?_;apply Y0;apply Y1;refine Wq Qz.ldD ?_;refine Wq (Qz.call (Sign_abs (gramM M z z i))) ?_;refine Wq Qz.cmpF ?_;apply Y0;refine Cf ?_;apply AWp.skip;apply ABlock.normal;apply Yn;apply AWp.region;refine Wq Qz.succ ?_;refine Wm ?_;apply AWl.nil
        refine ALoop.next (w - (i+1)) (by omega) ⟨i+1,by omega,rfl,rfl⟩ ?_
        exact AS.le_of (by refine Yd ?_;refine Yd ?_;refine Yd ?_;refine FrLe.cons rfl (AVle.own rfl) ?_;refine Yd ?_;refine Yd ?_;refine Yd ?_;refine Yd ?_;refine Yd ?_;exact FrLe.nil) (by refine HpLe.cons (OwLe.obj rfl) ?_;apply Yr;exact HpLe.nil)
       ·obtain rfl : w = i := by omega
        have hs2:(gramM M z z w).num.sign ≠ 0:=fun e=>hbad (num_sign0.1 e)
        apply Y1;refine Wq Qz.cmpT ?_;apply Y0;apply AWp.seq;refine Ct ?_;apply Ys;apply AWp.seq;apply AWp.block;apply Y1;refine Wq (Qs.ixX (k:=w) (ao rfl) (ao rfl) (tab_of rfl) (tab_of rfl) hw) ?_;refine Wq (Qs.ldH 0 (z+1) (e:=⟨b z,54,flatR (gramM M z z) n⟩) (ao rfl) rfl (gridP_row hz1) (tab_of rfl) rfl (PartAt.flat hw)) ?_;refine Al ?_;refine Sf ?_;apply Y0;apply Y1;refine Wq Qz.ldD ?_;refine Wq (Qz.call (Sign_abs (gramM M z z w))) ?_;refine Wq Qz.cmpT ?_;apply Y0;refine Ct ?_;apply Y1;refine Wa ?_;refine Wa ?_;apply Y0;apply AWp.ret;apply ABlock.ret;apply AThen.ret;apply ALoop.ret;apply ABlock.ret;apply ABlock.ret;apply ABlock.ret;apply AThen.ret;apply ALoop.ret;apply ABlock.ret;apply AThen.ret
        exact Fin.ret (Rets.of2 (ResV.tmp rfl rfl) (ResV.tmp rfl rfl) (D.le.tup2 (D.le_nil) (D.le.refl _)))
theorem gram_ok (n S:Nat) (e:Int) (ms:List (Nat→Int)) (M:Nat→Nat→Rat) (hn0:0<n) (hn:n≤100) (hl:ms.length = n) (hm:∀ m∈ms,In8 m 0 e) (he:e≤65535) (hM:∀ i j,RSz (M i j) S) (hS:gramS S n≤10000000) (hsy:∀ i,i<n→∀ j,j<i→M i j = M j i) (hok:∀ k,k<n→gramOk M n k):Abs Tryz.prog 17 [mmD ms,matD n n M] (tupD [sqD (gramL ms M n n),ex (.int .i64 0)]) :=
 gram_any n S e ms M hn0 hn hl hm he hM hS hsy n (Nat.le_refl n) hok _ (.inl ⟨rfl,rfl⟩)
theorem gram_neg (n S:Nat) (e:Int) (ms:List (Nat→Int)) (M:Nat→Nat→Rat) (hn0:0<n) (hn:n≤100) (hl:ms.length = n) (hm:∀ m∈ms,In8 m 0 e) (he:e≤65535) (hM:∀ i j,RSz (M i j) S) (hS:gramS S n≤10000000) (hsy:∀ i,i<n→∀ j,j<i→M i j = M j i) (z:Nat) (hz1:z<n) (hok:∀ k,k<z→gramOk M n k) (hneg:gramM M z z z<0):Abs Tryz.prog 17 [mmD ms,matD n n M] (tupD [sqD [],ex (.int .i64 280)]) :=
 gram_any n S e ms M hn0 hn hl hm he hM hS hsy z (Nat.le_of_lt hz1) hok _ (.inr ⟨hz1,rfl,.inl hneg⟩)
theorem gram_zero (n S:Nat) (e:Int) (ms:List (Nat→Int)) (M:Nat→Nat→Rat) (hn0:0<n) (hn:n≤100) (hl:ms.length = n) (hm:∀ m∈ms,In8 m 0 e) (he:e≤65535) (hM:∀ i j,RSz (M i j) S) (hS:gramS S n≤10000000) (hsy:∀ i,i<n→∀ j,j<i→M i j = M j i) (z:Nat) (hz1:z<n) (hok:∀ k,k<z→gramOk M n k) (hneg:gramM M z z z = 0) (w:Nat) (hw:w<n) (hrow:∀ j,j<w→gramM M z z j = 0) (hbad:gramM M z z w ≠ 0):Abs Tryz.prog 17 [mmD ms,matD n n M] (tupD [sqD [],ex (.int .i64 280)]) :=
 gram_any n S e ms M hn0 hn hl hm he hM hS hsy z (Nat.le_of_lt hz1) hok _ (.inr ⟨hz1,rfl,.inr ⟨hneg,w,hw,hrow,hbad⟩⟩)
theorem gram_argB (c n S:Nat) (hn0:0<n) (hc:c ≠ n) (hc1:c≤100) (hn:n≤100) (e:Int) (ms:List (Nat→Int)) (M:Nat→Nat→Rat) (hl:ms.length = n) (hM:∀ i j,RSz (M i j) S) (hS:S≤10000000) :
  Abs Tryz.prog 17 [mmD ms,matD n c M] (tupD [sqD [],ex (.int .i64 1)]):=by
 refine Ab Tryz.func17 fun s0=>?_
 rw [Tryz.ntmps17]
 apply Y1;refine Wa ?_;refine Wa ?_;apply Y0;apply Y1;refine Wm ?_;refine Wq (Qs.lenM rfl hl (tab_of rfl)) ?_;refine Wa ?_;apply Y0;apply AWp.seq;apply Y1;refine Wm ?_;refine Wq (Qz.call (mValid_abs n c M S hM (by omega) (by omega) (by omega))) ?_;refine Wq Qz.not ?_;refine Wm ?_;refine Wg Qz.move ?_;refine Wg (Qs.lenR rfl (tab_of rfl)) ?_;refine Wg Qz.move ?_;refine Wg Qz.cmpF ?_;refine Wq Qz.pickF ?_;refine Wm ?_;refine Wg Qz.move ?_;refine Wg Qz.cmpT ?_;refine Wg Qz.move ?_;refine Wg Qz.move ?_;refine Wg (Qs.indexR (k:=0) rfl (ao rfl) (tab_of rfl) (tab_of rfl) rfl hn0) ?_;refine Wg Qz.ldE1 ?_;refine Wg (Qs.lenR rfl (tab_of rfl)) ?_;refine Wg Qz.move ?_;refine Wg Qz.cmpT ?_;refine Wg Qz.pickT ?_;refine Wq Qz.pickF ?_;apply Y0;refine Ct ?_;apply Y1;refine Wa ?_;refine Wa ?_;apply Y0;apply AWp.ret;apply AThen.ret
 exact Fin.ret (Rets.of2 (ResV.tmp rfl rfl) (ResV.tmp rfl rfl) (D.le.tup2 (D.le_nil) (D.le.refl _)))
theorem gram_sym (n S:Nat) (hn0:0<n) (hn:n≤100) (e:Int) (ms:List (Nat→Int)) (M:Nat→Nat→Rat) (hl:ms.length = n) (hM:∀ i j,RSz (M i j) S) (hS:S≤10000000) (z w:Nat) (hz:z<n) (hw:w<z) (h:∀ i,i<z→∀ j,j<i→M i j = M j i) (h':∀ j,j<w→M z j = M j z) (hbad:M z w ≠ M w z) :
  Abs Tryz.prog 17 [mmD ms,matD n n M] (tupD [sqD [],ex (.int .i64 112)]):=by
 refine Ab Tryz.func17 fun s0=>?_
 rw [Tryz.ntmps17]
 apply Y1;refine Wa ?_;refine Wa ?_;apply Y0;apply Y1;refine Wm ?_;refine Wq (Qs.lenM rfl hl (tab_of rfl)) ?_;refine Wa ?_;apply Y0;apply AWp.seq;apply Y1;refine Wm ?_;refine Wq (Qz.call (mValid_abs n n M S hM (by omega) (by omega) (by omega))) ?_;refine Wq Qz.not ?_;refine Wm ?_;refine Wg Qz.move ?_;refine Wg (Qs.lenR rfl (tab_of rfl)) ?_;refine Wg Qz.move ?_;refine Wg Qz.cmpF ?_;refine Wq Qz.pickF ?_;refine Wm ?_;refine Wg Qz.move ?_;refine Wg Qz.cmpT ?_;refine Wg Qz.move ?_;refine Wg Qz.move ?_;refine Wg (Qs.indexR (k:=0) rfl (ao rfl) (tab_of rfl) (tab_of rfl) rfl hn0) ?_;refine Wg Qz.ldE1 ?_;refine Wg (Qs.lenR rfl (tab_of rfl)) ?_;refine Wg Qz.move ?_;refine Wg Qz.cmpF ?_;refine Wg Qz.pickT ?_;refine Wq Qz.pickF ?_;apply Y0;refine Cf ?_;apply Ys;apply AWp.seq;apply Y1;refine Wm ?_;refine Wq (Qz.call (symF_abs n M S hM (by omega) (by omega) z w hz hw h h' hbad)) ?_;refine Wq Qz.not ?_;apply Y0;refine Ct ?_;apply Y1;refine Wa ?_;refine Wa ?_;apply Y0;apply AWp.ret;apply AThen.ret
 exact Fin.ret (Rets.of2 (ResV.tmp rfl rfl) (ResV.tmp rfl rfl) (D.le.tup2 (D.le_nil) (D.le.refl _)))
def m2 (a b c d:Int) (i j:Nat):Rat:=if i = 0 then if j = 0 then (a:Rat) else (b:Rat) else if j = 0 then (c:Rat) else (d:Rat)
theorem matrix_abs (a b c d:Int) (ha:-1000≤a∧a≤1000) (hb:-1000≤b∧b≤1000) (hc:-1000≤c∧c≤1000) (hd:-1000≤d∧d≤1000):Abs Tryz.prog 39 [ex (.int .i64 a),ex (.int .i64 b),ex (.int .i64 c),ex (.int .i64 d)] (matD 2 2 (m2 a b c d)):=by
 refine Ab Tryz.func39 fun s0=>?_
 rw [Tryz.ntmps39]
 apply Y1;refine Wa ?_;apply Y0;apply Y1;refine Wm ?_;refine Wq (Qz.call (RWhole_abs a (by omega) (by omega))) ?_;refine Wm ?_;refine Wq (Qz.call (RWhole_abs b (by omega) (by omega))) ?_;(refine AWs.q rfl rfl ?_;(refine Bq.slice (tab_of rfl) (tab_of rfl) rfl rfl rfl rfl rfl ?_;(repeat ((first | refine ⟨_,PartOk.ag (ao rfl),?_⟩ | refine ⟨_,PartOk.one rfl (by first | exact One.ex_ rfl | exact One.sl | exact One.ep),?_⟩);refine ⟨_,rfl,?_⟩));refine ⟨_,rfl,?_⟩));refine Wm ?_;refine Wq (Qz.call (RWhole_abs c (by omega) (by omega))) ?_;refine Wm ?_;refine Wq (Qz.call (RWhole_abs d (by omega) (by omega))) ?_;(refine AWs.q rfl rfl ?_;(refine Bq.slice (tab_of rfl) (tab_of rfl) rfl rfl rfl rfl rfl ?_;(repeat ((first | refine ⟨_,PartOk.ag (ao rfl),?_⟩ | refine ⟨_,PartOk.one rfl (by first | exact One.ex_ rfl | exact One.sl | exact One.ep),?_⟩);refine ⟨_,rfl,?_⟩));refine ⟨_,rfl,?_⟩));(refine AWs.q rfl rfl ?_;(refine Bq.slice (tab_of rfl) (tab_of rfl) rfl rfl rfl rfl rfl ?_;(repeat ((first | refine ⟨_,PartOk.ag (ao rfl),?_⟩ | refine ⟨_,PartOk.one rfl (by first | exact One.ex_ rfl | exact One.sl | exact One.ep),?_⟩);refine ⟨_,rfl,?_⟩));refine ⟨_,rfl,?_⟩));refine Wa ?_;apply Y0;apply AWp.ret
 exact Fin.ret (Rets.of1 (ResV.tmp rfl rfl) (D.le.of_eq rfl))
theorem m2_sz {a b c d:Int} (ha:-1000≤a∧a≤1000) (hb:-1000≤b∧b≤1000) (hc:-1000≤c∧c≤1000) (hd:-1000≤d∧d≤1000) (i j:Nat):RSz (m2 a b c d i j) 1:=by
 unfold m2
 split <;> split <;> exact rsz_sm (by omega) (by omega)
theorem sclL_sim (c : Rat) (P:List Tm):Sim (sclL c P) (scl c P):=by
 unfold sclL
 split
 ·rename_i h
  intro f _
  rw [dot_scl,h,Rat.zero_mul]
  rfl
 ·unfold tms scl
  rw [List.map_congr_left fun t _=>by rw [zero_add8]]
  exact Sim.refl _
abbrev plusT : List Tm:=mrg [⟨1,unitE 0⟩] (constL (1:Int))
abbrev ms2 : List (Nat→Int):=[unitE 0,fun _=>0]
theorem ms2_in : ∀ m∈ms2,In8 m 0 1:=fun m hm=>by
 rcases List.mem_cons.1 hm with rfl | hm
 ·exact unitE_in
 ·rw [List.mem_singleton.1 hm]
  exact fun i _=>⟨Int.le_refl _,Int.zero_le_ofNat 1⟩
theorem dot_mrg {f : (Nat→Int)→Rat} (hf:Resp f) (P Q:List Tm):dot f (mrg P Q) = dot f P+dot f Q:=(mrg_sim P Q f hf).trans (dot_append f P Q)
theorem dot_sclL {f : (Nat→Int)→Rat} (hf:Resp f) (c:Rat) (P:List Tm):dot f (sclL c P) = c*dot f P:=(sclL_sim c P f hf).trans (dot_scl f c P)
theorem constL_neg : constL ((-1:Int):Rat) = [⟨-1,fun _=>0⟩]:=by
 rw [constL,if_neg (by decide +kernel)]
 rfl
theorem gram1 : gramL ms2 (m2 1 1 1 2) 2 2 = [⟨1,plusT⟩,⟨1,constL (1:Int)⟩]:=by
 have e0:gramM (m2 1 1 1 2) 0 0 0 = 1:=by decide +kernel
 have e1:gramM (m2 1 1 1 2) 0 0 1 = 1:=by decide +kernel
 have e2:gramM (m2 1 1 1 2) 1 1 1 = 1:=by decide +kernel
 have e3:gramM (m2 1 1 1 2) 1 1 0 = 0:=by decide +kernel
 have z:¬ (1:Rat) = 0:=by decide +kernel
 have d:(1:Rat) / 1 = 1:=by decide +kernel
 have s1:sqR ms2 (gramM (m2 1 1 1 2) 0 0) 1 2 = plusT:=by
  show (if gramM (m2 1 1 1 2) 0 0 1 = 0 then _ else mrg (if gramM (m2 1 1 1 2) 0 0 0 = 0 then _ else mrg [] [⟨gramM (m2 1 1 1 2) 0 0 0 / 1,unitE 0⟩]) [⟨gramM (m2 1 1 1 2) 0 0 1 / 1,fun _=>0⟩]) = _
  rw [e0,e1,if_neg z,if_neg z,d,nil_mrg,plusT,constL_one]
 have s2:sqR ms2 (gramM (m2 1 1 1 2) 1 1) 1 2 = constL (1:Int):=by
  show (if gramM (m2 1 1 1 2) 1 1 1 = 0 then _ else mrg (if gramM (m2 1 1 1 2) 1 1 0 = 0 then [] else _) [⟨gramM (m2 1 1 1 2) 1 1 1 / 1,fun _=>0⟩]) = _
  rw [e2,e3,if_neg z,if_pos rfl,d,nil_mrg,constL_one]
 show (if gramM (m2 1 1 1 2) 1 1 1 = 0 then _ else (if gramM (m2 1 1 1 2) 0 0 0 = 0 then _ else ([]:List Sq) ++ [(⟨gramM (m2 1 1 1 2) 0 0 0,sqR ms2 (gramM (m2 1 1 1 2) 0 0) (gramM (m2 1 1 1 2) 0 0 0) 2⟩:Sq)]) ++ [(⟨gramM (m2 1 1 1 2) 1 1 1,sqR ms2 (gramM (m2 1 1 1 2) 1 1) (gramM (m2 1 1 1 2) 1 1 1) 2⟩:Sq)]) = _
 rw [e0,e2,if_neg z,if_neg z,s1,s2]
 rfl
theorem gram2 : gramL ms2 (m2 0 0 0 3) 2 2 = [⟨(3:Int),constL (1:Int)⟩]:=by
 have e0:gramM (m2 0 0 0 3) 0 0 0 = 0:=by decide +kernel
 have e2:gramM (m2 0 0 0 3) 1 1 1 = (3:Int):=by decide +kernel
 have e3:gramM (m2 0 0 0 3) 1 1 0 = 0:=by decide +kernel
 have z:¬ ((3:Int):Rat) = 0:=by decide +kernel
 have d:((3:Int):Rat) / ((3:Int):Rat) = 1:=by decide +kernel
 have s2:sqR ms2 (gramM (m2 0 0 0 3) 1 1) (3:Int) 2 = constL (1:Int):=by
  show (if gramM (m2 0 0 0 3) 1 1 1 = 0 then _ else mrg (if gramM (m2 0 0 0 3) 1 1 0 = 0 then [] else _) [⟨gramM (m2 0 0 0 3) 1 1 1 / (3:Int),fun _=>0⟩]) = _
  rw [e2,e3,if_neg z,if_pos rfl,d,nil_mrg,constL_one]
 show (if gramM (m2 0 0 0 3) 1 1 1 = 0 then _ else (if gramM (m2 0 0 0 3) 0 0 0 = 0 then [] else _) ++ [(⟨gramM (m2 0 0 0 3) 1 1 1,sqR ms2 (gramM (m2 0 0 0 3) 1 1) (gramM (m2 0 0 0 3) 1 1 1) 2⟩:Sq)]) = _
 rw [e0,e2,if_neg z,if_pos rfl,s2]
 rfl
theorem two_lt {p : Nat→Prop} (h0:p 0) (h1:p 1):∀ k,k<2→p k:=fun k hk=>by
 match k,hk with
 | 0,_=>exact h0
 | 1,_=>exact h1
theorem gok1 : ∀ k,k<2→gramOk (m2 1 1 1 2) 2 k:=two_lt ⟨by decide +kernel,fun h=>absurd h (by decide +kernel)⟩ ⟨by decide +kernel,fun h=>absurd h (by decide +kernel)⟩
theorem gok2 : ∀ k,k<2→gramOk (m2 0 0 0 3) 2 k:=two_lt ⟨by decide +kernel,fun _=>two_lt (by decide +kernel) (by decide +kernel)⟩ ⟨by decide +kernel,fun h=>absurd h (by decide +kernel)⟩
theorem sy2 {a b d:Int}:∀ i,i<2→∀ j,j<i→m2 a b b d i j = m2 a b b d j i:=two_lt (fun j h=>absurd h (Nat.not_lt_zero j)) fun j h=>by
 obtain rfl:j = 0:=by omega
 rfl
theorem gram1_abs : Abs Tryz.prog 17 [mmD ms2,matD 2 2 (m2 1 1 1 2)] (tupD [sqD [⟨1,plusT⟩,⟨1,constL (1:Int)⟩],ex (.int .i64 0)]):=by
 have:=gram_ok 2 1 1 ms2 (m2 1 1 1 2) (by omega) (by omega) rfl ms2_in (by omega) (m2_sz (by omega) (by omega) (by omega) (by omega)) (by decide) sy2 gok1
 rwa [gram1] at this
theorem gram2_abs : Abs Tryz.prog 17 [mmD ms2,matD 2 2 (m2 0 0 0 3)] (tupD [sqD [⟨(3:Int),constL (1:Int)⟩],ex (.int .i64 0)]):=by
 have:=gram_ok 2 1 1 ms2 (m2 0 0 0 3) (by omega) (by omega) rfl ms2_in (by omega) (m2_sz (by omega) (by omega) (by omega) (by omega)) (by decide) sy2 gok2
 rwa [gram2] at this
theorem gram3_abs : Abs Tryz.prog 17 [mmD ms2,matD 2 2 (m2 0 1 1 2)] (tupD [sqD [],ex (.int .i64 280)]) :=
 gram_zero 2 1 1 ms2 (m2 0 1 1 2) (by omega) (by omega) rfl ms2_in (by omega) (m2_sz (by omega) (by omega) (by omega) (by omega)) (by decide) sy2 0 (by omega) (fun k h=>absurd h (Nat.not_lt_zero k)) (by decide +kernel) 1 (by omega) (fun j h=>by obtain rfl:j = 0:=(by omega);decide +kernel) (by decide +kernel)
theorem gram4_abs : Abs Tryz.prog 17 [mmD ms2,matD 2 2 (m2 1 2 2 1)] (tupD [sqD [],ex (.int .i64 280)]) :=
 gram_neg 2 1 1 ms2 (m2 1 2 2 1) (by omega) (by omega) rfl ms2_in (by omega) (m2_sz (by omega) (by omega) (by omega) (by omega)) (by decide) sy2 1 (by omega) (fun k h=>by obtain rfl:k = 0:=(by omega);exact ⟨by decide +kernel,fun h=>absurd h (by decide +kernel)⟩) (by decide +kernel)
theorem gram5_abs : Abs Tryz.prog 17 [mmD ms2,matD 2 2 (m2 1 2 3 4)] (tupD [sqD [],ex (.int .i64 112)]) :=
 gram_sym 2 1 (by omega) (by omega) 1 ms2 (m2 1 2 3 4) rfl (m2_sz (by omega) (by omega) (by omega) (by omega)) (by decide) 1 0 (by omega) (by omega) (fun i hi j hj=>by omega) (fun j hj=>absurd hj (Nat.not_lt_zero j)) (by decide +kernel)
theorem gram6_abs : Abs Tryz.prog 17 [mmD [unitE 0],matD 1 2 (m2 1 0 0 0)] (tupD [sqD [],ex (.int .i64 1)]) :=
 gram_argB 2 1 1 (by omega) (by omega) (by omega) (by omega) 1 [unitE 0] (m2 1 0 0 0) rfl (m2_sz (by omega) (by omega) (by omega) (by omega)) (by decide)
abbrev xL : List Tm:=[⟨1,unitE 0⟩]
abbrev yL : List Tm:=[⟨1,unitE 1⟩]
abbrev oneL : List Tm:=constL (1:Int)
abbrev negL : List Tm:=constL (-1:Int)
abbrev sq28 : List Sq:=[⟨(2:Int),plusT⟩,⟨(-1:Int),yL⟩]
abbrev want28 : List Tm:=psub (sclL (2:Int) (pmul plusT plusT)) (pmul yL yL)
abbrev x21 : List Tm:=mrg (pmul xL xL) oneL
theorem x_pb : PB xL 1 1 1:=one_pb unitE_in
theorem y_pb : PB yL 1 1 1:=one_pb unitE_in
theorem one_pb1 : PB oneL 1 1 1:=constL_pb (rsz_sm (by omega) (by omega)) (by omega)
theorem neg_pb1 : PB negL 1 1 1:=constL_pb (rsz_sm (by omega) (by omega)) (by omega)
theorem plus_pb : PB plusT 2 3 1:=x_pb.add one_pb1
theorem sq28_b : SqB sq28 2 3 1 1:=fun s hs=>by
 rcases List.mem_cons.1 hs with rfl | hs
 ·exact ⟨plus_pb,rsz_sm (by omega) (by omega)⟩
 ·rw [List.mem_singleton.1 hs]
  exact ⟨y_pb.mono (by omega) (by omega) (by omega),rsz_sm (by omega) (by omega)⟩
theorem want_sim : Sim (sumL sq28) want28:=fun f hf=>by
 show dot f (mrg (mrg [] (sclL (2:Int) (pmul plusT plusT))) (sclL (-1:Int) (pmul yL yL))) = dot f (mrg (sclL (2:Int) (pmul plusT plusT)) (neg (pmul yL yL)))
 rw [nil_mrg,dot_mrg hf,dot_mrg hf,neg_dot,dot_sclL hf (-1:Int)]
 have:((-1:Int):Rat) = -1:=rfl
 rw [this]
 grind
theorem x21_pb : PB x21 2 5 2:=((x_pb.mul x_pb (by omega) (by omega)).add one_pb1).mono (by omega) (by omega) (by omega)
theorem prf_dot {f : (Nat→Int)→Rat} (hf:Resp f):dot f (mrg (sumL [⟨(1:Int),xL⟩]) (prodT [negL] [x21] 1)) = -f fun _=>0:=by
 show dot f (mrg (mrg [] (sclL (1:Int) (pmul xL xL))) (mrg [] (pmul negL x21))) = _
 rw [nil_mrg,nil_mrg,dot_mrg hf,dot_sclL hf,pmul_sim negL x21 f hf,dot_mulL,negL,constL_neg]
 simp only [dot,zero_add8]
 rw [dot_mrg hf,oneL,constL_one]
 simp only [dot]
 have:((1:Int):Rat) = 1:=rfl
 rw [this]
 grind
theorem sx_b : SqB [⟨(1:Int),xL⟩] 1 1 1 1:=fun s hs=>by
 rw [List.mem_singleton.1 hs]
 exact ⟨x_pb,rsz_sm (by omega) (by omega)⟩
theorem cn_b : PlB [negL] 1 1 1:=fun p hp=>by
 rw [List.mem_singleton.1 hp]
 exact neg_pb1
theorem x21_b : PlB [x21] 2 5 2:=fun p hp=>by
 rw [List.mem_singleton.1 hp]
 exact x21_pb
theorem prf_can : Canon (mrg (sumL [⟨(1:Int),xL⟩]) (prodT [negL] [x21] 1)):=((sum_pb sx_b (by omega) 1 (Nat.le_refl 1)).add (prod_pb cn_b x21_b (by omega) (by omega) rfl 1 (Nat.le_refl 1))).can
theorem prfT : pcmp negL (mrg (sumL [⟨(1:Int),xL⟩]) (prodT [negL] [x21] [negL].length)) = 0:=pcmp_zero.2 (canon_unique neg_pb1.can prf_can fun f hf=>by
 show dot f negL = dot f (mrg (sumL [⟨(1:Int),xL⟩]) (prodT [negL] [x21] 1))
 rw [prf_dot hf,negL,constL_neg]
 simp only [dot]
 grind)
theorem prfF : ¬ pcmp oneL (mrg (sumL [⟨(1:Int),xL⟩]) (prodT [negL] [x21] [negL].length)) = 0:=fun h=>by
 have h1:=(pcmp_zero.1 h).sim (fun _=>1) (fun _ _ _=>rfl)
 rw [show [negL].length = 1 from rfl,prf_dot (fun _ _ _=>rfl),oneL,constL_one] at h1
 simp only [dot] at h1
 grind
theorem prfT_abs : Abs Tryz.prog 40 [polD negL,sqD [⟨(1:Int),xL⟩],plD [negL],plD [x21]] (ex (.bool true)):=by
 have:=sProves_abs negL [⟨(1:Int),xL⟩] [negL] [x21] 1 1 2 5 1 1 1 1 1 1 2 1 1 neg_pb1 sx_b (by decide) (fun k hk=>by obtain rfl:k = 0:=(by simpa using hk);exact (by decide +kernel)) cn_b x21_b rfl (by decide) (by omega) (by omega) (by omega) (by omega) (by omega) (by omega) (by omega) (by omega) (by omega) (by omega) (by omega) (by omega) (by omega)
 rwa [decide_eq_true prfT] at this
theorem prfF_abs : Abs Tryz.prog 40 [polD oneL,sqD [⟨(1:Int),xL⟩],plD [negL],plD [x21]] (ex (.bool false)):=by
 have:=sProves_abs oneL [⟨(1:Int),xL⟩] [negL] [x21] 1 1 2 5 1 1 1 1 1 1 2 1 1 one_pb1 sx_b (by decide) (fun k hk=>by obtain rfl:k = 0:=(by simpa using hk);exact (by decide +kernel)) cn_b x21_b rfl (by decide) (by omega) (by omega) (by omega) (by omega) (by omega) (by omega) (by omega) (by omega) (by omega) (by omega) (by omega) (by omega) (by omega)
 rwa [decide_eq_false prfF] at this
abbrev l28 : List Sq:=[⟨1,plusT⟩,⟨1,oneL⟩]
abbrev k28 : List Sq:=[⟨(3:Int),oneL⟩]
theorem hl28 : ∀ k,k<l28.length→0≤(sAt l28 k).a.num.sign:=two_lt (by decide +kernel) (by decide +kernel)
theorem sanity28_abs : Abs Tryz.prog 7 [] (ex (.bool true)):=by
 have hpp:=plus_pb.mul plus_pb (by omega) (by omega)
 have hyy:=y_pb.mul y_pb (by omega) (by omega)
 have h2:RSz ((2:Int):Rat) 1:=rsz_sm (by omega) (by omega)
 have hsp:=sclL_pb hpp h2
 have cscale:=RScale_abs (2:Int) (pmul plusT plusT) 1 14 h2 hpp.sz (hpp.ex.mono (Int.le_refl _) (by omega)) (Nat.le_trans hpp.len (by omega)) (by omega)
 have hsum:=sum_pb sq28_b (by omega) 2 (Nat.le_refl 2)
 have csame:=RSame_sim hsum.can (hsp.sub hyy).can want_sim
 refine Ab Tryz.func7 fun s0=>?_
 rw [Tryz.ntmps7]
 apply Y1;refine Wa ?_;apply Y0;apply Y1;refine Wq (Qz.call (RX_abs 0 (by omega))) ?_;refine Wa ?_;apply Y0;apply Y1;refine Wq (Qz.call (RX_abs 1 (by omega))) ?_;refine Wa ?_;apply Y0;apply Y1;refine Wq (Qz.call (RInt_abs 1 (by omega) (by omega))) ?_;refine Wa ?_;apply Y0;apply Y1;refine Wm ?_;refine Wm ?_;refine Wq (Qz.call (RAdd_pb x_pb one_pb1 (by omega) (by omega))) ?_;refine Wa ?_;apply Y0;apply Y1;refine Wq (Qz.call (RWhole_abs 2 (by omega) (by omega))) ?_;refine Wm ?_;(refine AWs.q rfl rfl ?_;(refine Bq.build (tab_of rfl) rfl rfl rfl ?_;(repeat ((first | refine ⟨_,PartOk.ag (ao rfl),?_⟩ | refine ⟨_,PartOk.one rfl (by first | exact One.ex_ rfl | exact One.sl | exact One.ep),?_⟩);refine ⟨_,rfl,?_⟩));refine ⟨_,rfl,?_⟩));refine Wq (Qz.call (RWhole_abs (-1) (by omega) (by omega))) ?_;refine Wm ?_;(refine AWs.q rfl rfl ?_;(refine Bq.build (tab_of rfl) rfl rfl rfl ?_;(repeat ((first | refine ⟨_,PartOk.ag (ao rfl),?_⟩ | refine ⟨_,PartOk.one rfl (by first | exact One.ex_ rfl | exact One.sl | exact One.ep),?_⟩);refine ⟨_,rfl,?_⟩));refine ⟨_,rfl,?_⟩));(refine AWs.q rfl rfl ?_;(refine Bq.slice (tab_of rfl) (tab_of rfl) rfl rfl rfl rfl rfl ?_;(repeat ((first | refine ⟨_,PartOk.ag (ao rfl),?_⟩ | refine ⟨_,PartOk.one rfl (by first | exact One.ex_ rfl | exact One.sl | exact One.ep),?_⟩);refine ⟨_,rfl,?_⟩));refine ⟨_,rfl,?_⟩));refine Wq (Qz.call (sSum_abs sq28 2 3 1 1 sq28_b (by omega) (by decide) (by omega) (by omega) (by omega) (by omega))) ?_;refine Wm ?_;refine Wq Qz.ext ?_;refine Wq Qz.ext ?_;refine Wa ?_;refine Wa ?_;apply Y0;apply Y1;refine Wq (Qz.call (RWhole_abs 2 (by omega) (by omega))) ?_;refine Wm ?_;refine Wm ?_;refine Wq (Qz.call (RBy_pb plus_pb plus_pb (by omega) (by omega) (by omega) (by omega) (by omega) (by omega))) ?_;refine Wq (Qz.call (cscale)) ?_;refine Wm ?_;refine Wm ?_;refine Wq (Qz.call (RBy_pb y_pb y_pb (by omega) (by omega) (by omega) (by omega) (by omega) (by omega))) ?_;refine Wq (Qz.call (RSub_pb hsp hyy (by omega) (by omega) (by omega))) ?_;refine Wa ?_;apply Y0;apply Y1;(refine AWs.q rfl rfl ?_;(refine Bq.arr (tab_of rfl) (tab_of rfl) rfl rfl ?_;(repeat ((first | refine ⟨_,PartOk.ag (ao rfl),?_⟩ | refine ⟨_,PartOk.one rfl (by first | exact One.ex_ rfl | exact One.sl | exact One.ep),?_⟩);refine ⟨_,rfl,?_⟩));refine ⟨_,rfl,?_⟩));(refine AWs.q rfl rfl ?_;(refine Bq.arr (tab_of rfl) (tab_of rfl) rfl rfl ?_;(repeat ((first | refine ⟨_,PartOk.ag (ao rfl),?_⟩ | refine ⟨_,PartOk.one rfl (by first | exact One.ex_ rfl | exact One.sl | exact One.ep),?_⟩);refine ⟨_,rfl,?_⟩));refine ⟨_,rfl,?_⟩));(refine AWs.q rfl rfl ?_;(refine Bq.slice (tab_of rfl) (tab_of rfl) rfl rfl rfl rfl rfl ?_;(repeat ((first | refine ⟨_,PartOk.ag (ao rfl),?_⟩ | refine ⟨_,PartOk.one rfl (by first | exact One.ex_ rfl | exact One.sl | exact One.ep),?_⟩);refine ⟨_,rfl,?_⟩));refine ⟨_,rfl,?_⟩));refine Wa ?_;apply Y0;apply Y1;refine Wm ?_;refine Wq (Qz.call (matrix_abs 1 1 1 2 (by omega) (by omega) (by omega) (by omega))) ?_;refine Wq (Qz.call (gram1_abs)) ?_;refine Wm ?_;refine Wq Qz.ext ?_;refine Wq Qz.ext ?_;refine Wa ?_;refine Wa ?_;apply Y0;apply Y1;refine Wm ?_;refine Wq (Qz.call (matrix_abs 0 1 1 2 (by omega) (by omega) (by omega) (by omega))) ?_;refine Wq (Qz.call (gram3_abs)) ?_;refine Wm ?_;refine Wq Qz.ext ?_;refine Wq Qz.ext ?_;refine Wa ?_;refine Wa ?_;apply Y0;apply Y1;refine Wm ?_;refine Wq (Qz.call (matrix_abs 1 2 2 1 (by omega) (by omega) (by omega) (by omega))) ?_;refine Wq (Qz.call (gram4_abs)) ?_;refine Wm ?_;refine Wq Qz.ext ?_;refine Wq Qz.ext ?_;refine Wa ?_;refine Wa ?_;apply Y0;apply Y1;refine Wm ?_;refine Wq (Qz.call (matrix_abs 0 0 0 3 (by omega) (by omega) (by omega) (by omega))) ?_;refine Wq (Qz.call (gram2_abs)) ?_;refine Wm ?_;refine Wq Qz.ext ?_;refine Wq Qz.ext ?_;refine Wa ?_;refine Wa ?_;apply Y0;apply AWp.seq
 refine AWp.dr' (DrawOk.float (e:=9) (by kernel_rfl) (K4 (K4 (AddE.keep (AddE.keep (AddE.add (AddE.keep AddE.nil)))))) (by kernel_rfl)) [[],[(77,0)],[],[],[(79,2),(80,3)],[(81,4)],[(78,1),(82,5)],[(83,6)],[(76,7)],[(76,7)]] [[],[0],[],[2],[2,3],[2,3,4],[0,1,2,3,4,5],[0,1,2,3,4,5,6],[0,1,2,3,4,5,6,7],[0,1,2,3,4,5,6,7]] rfl (by kernel_rfl) (by kernel_rfl) (by kernel_rfl) ?_
 refine Xq Qz.move ?_;refine Xq (Qs.takeN (f:=monC) (l:=ms2) (i:=1) rfl (ah rfl) (tab_of rfl) (tab_of rfl) rfl (by decide)) ?_;refine Xq (Qz.call (RWhole_abs 1 (by omega) (by omega))) ?_;refine Xq (Qz.call (RWhole_abs 0 (by omega) (by omega))) ?_;(refine Hq rfl ?_;refine Bq.slice (tab_of rfl) (tab_of rfl) rfl rfl rfl rfl rfl ?_;(repeat ((first | refine ⟨_,PartOk.ag (ah rfl),?_⟩ | refine ⟨_,PartOk.one rfl (by first | exact One.ex_ rfl | exact One.sl | exact One.ep),?_⟩);refine ⟨_,rfl,?_⟩));refine ⟨_,rfl,?_⟩;refine ⟨_,rfl,?_⟩);(refine Hq rfl ?_;refine Bq.slice (tab_of rfl) (tab_of rfl) rfl rfl rfl rfl rfl ?_;(repeat ((first | refine ⟨_,PartOk.ag (ah rfl),?_⟩ | refine ⟨_,PartOk.one rfl (by first | exact One.ex_ rfl | exact One.sl | exact One.ep),?_⟩);refine ⟨_,rfl,?_⟩));refine ⟨_,rfl,?_⟩;refine ⟨_,rfl,?_⟩);refine Xq (Qz.call (gram6_abs)) ?_;refine Xq Qz.move ?_;refine Xq Qz.ext ?_;refine Xq Qz.ext ?_;refine ⟨_,rfl,?_⟩
 refine Wa ?_;refine Wa ?_;apply AWl.nil;apply OnlyN.mk';apply Yn;apply Y1;refine Wm ?_;refine Wq (Qz.call (matrix_abs 1 2 3 4 (by omega) (by omega) (by omega) (by omega))) ?_;refine Wq (Qz.call (gram5_abs)) ?_;refine Wm ?_;refine Wq Qz.ext ?_;refine Wq Qz.ext ?_;refine Wa ?_;refine Wa ?_;apply Y0;apply AWp.seq;apply Y1;refine Wm ?_;refine Wq Qz.cmpF ?_;refine Wm ?_;refine Wg Qz.move ?_;refine Wg Qz.cmpF ?_;refine Wq Qz.pickF ?_;refine Wm ?_;refine Wg Qz.move ?_;refine Wg Qz.cmpF ?_;refine Wq Qz.pickF ?_;refine Wm ?_;refine Wg Qz.move ?_;refine Wg Qz.cmpF ?_;refine Wq Qz.pickF ?_;refine Wm ?_;refine Wg Qz.move ?_;refine Wg Qz.cmpF ?_;refine Wq Qz.pickF ?_;refine Wm ?_;refine Wg Qz.move ?_;refine Wg Qz.cmpF ?_;refine Wq Qz.pickF ?_;refine Wm ?_;refine Wg Qz.move ?_;refine Wg Qz.cmpF ?_;refine Wq Qz.pickF ?_;apply Y0;refine Cf ?_;apply Ys;apply Y1;refine Wm ?_;refine Wm ?_;refine Wq (Qz.call (RBy_pb x_pb x_pb (by omega) (by omega) (by omega) (by omega) (by omega) (by omega))) ?_;refine Wm ?_;refine Wq (Qz.call (RAdd_pb (x_pb.mul x_pb (by omega) (by omega)) one_pb1 (by omega) (by omega))) ?_;(refine AWs.q rfl rfl ?_;(refine Bq.slice (tab_of rfl) (tab_of rfl) rfl rfl rfl rfl rfl ?_;(repeat ((first | refine ⟨_,PartOk.ag (ao rfl),?_⟩ | refine ⟨_,PartOk.one rfl (by first | exact One.ex_ rfl | exact One.sl | exact One.ep),?_⟩);refine ⟨_,rfl,?_⟩));refine ⟨_,rfl,?_⟩));refine Wa ?_;apply Y0;apply Y1;refine Wq (Qz.call (RInt_abs (-1) (by omega) (by omega))) ?_;refine Wq (Qz.call (RWhole_abs 1 (by omega) (by omega))) ?_;refine Wm ?_;(refine AWs.q rfl rfl ?_;(refine Bq.build (tab_of rfl) rfl rfl rfl ?_;(repeat ((first | refine ⟨_,PartOk.ag (ao rfl),?_⟩ | refine ⟨_,PartOk.one rfl (by first | exact One.ex_ rfl | exact One.sl | exact One.ep),?_⟩);refine ⟨_,rfl,?_⟩));refine ⟨_,rfl,?_⟩));refine Wq (Bq.slice1 (ao rfl) (tab_of rfl) (tab_of rfl) rfl rfl rfl rfl rfl) ?_;refine Wq (Qz.call (RInt_abs (-1) (by omega) (by omega))) ?_;(refine AWs.q rfl rfl ?_;(refine Bq.slice (tab_of rfl) (tab_of rfl) rfl rfl rfl rfl rfl ?_;(repeat ((first | refine ⟨_,PartOk.ag (ao rfl),?_⟩ | refine ⟨_,PartOk.one rfl (by first | exact One.ex_ rfl | exact One.sl | exact One.ep),?_⟩);refine ⟨_,rfl,?_⟩));refine ⟨_,rfl,?_⟩));refine Wm ?_;refine Wq (Qz.call (prfT_abs)) ?_;refine Wm ?_;refine Wg (Qz.call (RInt_abs 1 (by omega) (by omega))) ?_;refine Wg (Qz.call (RWhole_abs 1 (by omega) (by omega))) ?_;refine Wg Qz.move ?_;(refine AWs.qG rfl rfl rfl rfl rfl ?_;(refine Bq.build (tab_of rfl) rfl rfl rfl ?_;(repeat ((first | refine ⟨_,PartOk.ag (ao rfl),?_⟩ | refine ⟨_,PartOk.one rfl (by first | exact One.ex_ rfl | exact One.sl | exact One.ep),?_⟩);refine ⟨_,rfl,?_⟩));refine ⟨_,rfl,?_⟩));refine Wg (Bq.slice1 (ao rfl) (tab_of rfl) (tab_of rfl) rfl rfl rfl rfl rfl) ?_;refine Wg (Qz.call (RInt_abs (-1) (by omega) (by omega))) ?_;(refine AWs.qG rfl rfl rfl rfl rfl ?_;(refine Bq.slice (tab_of rfl) (tab_of rfl) rfl rfl rfl rfl rfl ?_;(repeat ((first | refine ⟨_,PartOk.ag (ao rfl),?_⟩ | refine ⟨_,PartOk.one rfl (by first | exact One.ex_ rfl | exact One.sl | exact One.ep),?_⟩);refine ⟨_,rfl,?_⟩));refine ⟨_,rfl,?_⟩));refine Wg Qz.move ?_;refine Wg (Qz.call (prfF_abs)) ?_;refine Wg Qz.not ?_;refine Wq Qz.pickT ?_;refine Wa ?_;apply Y0;apply Y1;refine Wm ?_;refine Wm ?_;refine Wg Qz.move ?_;refine Wg Qz.move ?_;refine Wg (Qz.call (csame)) ?_;refine Wq Qz.pickT ?_;refine Wm ?_;refine Wg Qz.move ?_;refine Wg (Qz.call (RWhole_abs 1 (by omega) (by omega))) ?_;refine Wg Qz.move ?_;(refine AWs.qG rfl rfl rfl rfl rfl ?_;(refine Bq.build (tab_of rfl) rfl rfl rfl ?_;(repeat ((first | refine ⟨_,PartOk.ag (ao rfl),?_⟩ | refine ⟨_,PartOk.one rfl (by first | exact One.ex_ rfl | exact One.sl | exact One.ep),?_⟩);refine ⟨_,rfl,?_⟩));refine ⟨_,rfl,?_⟩));refine Wg (Qz.call (RWhole_abs 1 (by omega) (by omega))) ?_;refine Wg Qz.move ?_;(refine AWs.qG rfl rfl rfl rfl rfl ?_;(refine Bq.build (tab_of rfl) rfl rfl rfl ?_;(repeat ((first | refine ⟨_,PartOk.ag (ao rfl),?_⟩ | refine ⟨_,PartOk.one rfl (by first | exact One.ex_ rfl | exact One.sl | exact One.ep),?_⟩);refine ⟨_,rfl,?_⟩));refine ⟨_,rfl,?_⟩));(refine AWs.qG rfl rfl rfl rfl rfl ?_;(refine Bq.slice (tab_of rfl) (tab_of rfl) rfl rfl rfl rfl rfl ?_;(repeat ((first | refine ⟨_,PartOk.ag (ao rfl),?_⟩ | refine ⟨_,PartOk.one rfl (by first | exact One.ex_ rfl | exact One.sl | exact One.ep),?_⟩);refine ⟨_,rfl,?_⟩));refine ⟨_,rfl,?_⟩));refine Wg (Qz.call (RsSame_abs l28 (by decide))) ?_;refine Wq Qz.pickT ?_;refine Wm ?_;refine Wg Qz.move ?_;refine Wg (Qz.call (RWhole_abs 3 (by omega) (by omega))) ?_;refine Wg Qz.move ?_;(refine AWs.qG rfl rfl rfl rfl rfl ?_;(refine Bq.build (tab_of rfl) rfl rfl rfl ?_;(repeat ((first | refine ⟨_,PartOk.ag (ao rfl),?_⟩ | refine ⟨_,PartOk.one rfl (by first | exact One.ex_ rfl | exact One.sl | exact One.ep),?_⟩);refine ⟨_,rfl,?_⟩));refine ⟨_,rfl,?_⟩));refine Wg (Bq.slice1 (ao rfl) (tab_of rfl) (tab_of rfl) rfl rfl rfl rfl rfl) ?_;refine Wg (Qz.call (RsSame_abs k28 (by decide))) ?_;refine Wq Qz.pickT ?_;refine Wm ?_;refine Wg Qz.move ?_;refine Wg (Qz.call (sValT_abs l28 (by decide) hl28)) ?_;refine Wq Qz.pickT ?_;refine Wm ?_;refine Wg (Qz.call (RWhole_abs (-1) (by omega) (by omega))) ?_;refine Wg Qz.move ?_;(refine AWs.qG rfl rfl rfl rfl rfl ?_;(refine Bq.build (tab_of rfl) rfl rfl rfl ?_;(repeat ((first | refine ⟨_,PartOk.ag (ao rfl),?_⟩ | refine ⟨_,PartOk.one rfl (by first | exact One.ex_ rfl | exact One.sl | exact One.ep),?_⟩);refine ⟨_,rfl,?_⟩));refine ⟨_,rfl,?_⟩));refine Wg (Bq.slice1 (ao rfl) (tab_of rfl) (tab_of rfl) rfl rfl rfl rfl rfl) ?_;refine Wg (Qz.call (sValF_abs [⟨(-1:Int),xL⟩] (by decide) 0 (by decide) (fun k h=>absurd h (Nat.not_lt_zero k)) (by decide +kernel))) ?_;refine Wg Qz.not ?_;refine Wq Qz.pickT ?_;refine Wa ?_;apply Y0;apply AWp.ret
 exact Yf
theorem evF_scl (x : Nat→Rat) (c:Rat) (P:List Tm):evF x (sclL c P) = c*evF x P:=by
 rw [evF_eq,evF_eq,dot_sclL (monV_resp x)]
def zT (x : Nat→Rat) (S:List Sq):Nat→Bool
 | 0=>true
 | k+1=>zT x S k && (decide ((sAt S k).a = 0) || decide (evF x (sAt S k).p = 0))
theorem sumF_val {x : Nat→Rat} {Q:List Tm} {s:Sq} (h:∀ t∈s.p,∀ i,i<8→0≤t.m i):evF x (sumF Q s) = evF x Q+s.a*(evF x s.p*evF x s.p):=by
 rw [sumF,evF_add,evF_scl,evF_mul h h]
theorem rat_sq_nn (a : Rat):0≤a*a:=by
 rcases (Rat.le_total:0≤a∨a≤0) with h | h
 ·exact Rat.mul_nonneg h h
 ·have h1 : 0 ≤ -a := by grind
  have:=Rat.mul_nonneg h1 h1
  grind
theorem rat_mul_zero {a b:Rat} (h:a*b = 0):a = 0∨b = 0:=Classical.byContradiction fun hn=>by
 have ha:a ≠ 0:=fun e=>hn (.inl e)
 have hb:b ≠ 0:=fun e=>hn (.inr e)
 exact rat_mul_ne ha hb h
theorem sum_val {x : Nat→Rat} {S:List Sq} (h0:∀ k,k<S.length→0≤(sAt S k).a) (hm:∀ k,k<S.length→∀ t∈(sAt S k).p,∀ i,i<8→0≤t.m i):∀ k,k≤S.length→0≤evF x (sumL (S.take k))∧(evF x (sumL (S.take k)) = 0↔zT x S k = true)
 | 0,_=>by
  have e:evF x (sumL (S.take 0)) = 0:=rfl
  rw [e]
  exact ⟨Rat.le_refl,fun _=>rfl,fun _=>rfl⟩
 | k+1,hk=>by
  obtain ⟨h1,h2⟩:=sum_val (x:=x) h0 hm k (by omega)
  have h3:=h0 k (by omega)
  have h4:=rat_sq_nn (evF x (sAt S k).p)
  have h5:=Rat.mul_nonneg h3 h4
  rw [sum_step (show k<S.length by omega),sumF_val (hm k (by omega)),zT]
  refine ⟨by grind,fun e=>?_,fun e=>?_⟩
  ·have e1 : evF x (sumL (S.take k)) = 0 := by grind
   have e2:(sAt S k).a*(evF x (sAt S k).p*evF x (sAt S k).p) = 0:=by grind
   rw [h2.1 e1,Bool.true_and,Bool.or_eq_true,decide_eq_true_iff,decide_eq_true_iff]
   exact (rat_mul_zero e2).imp id fun h=>(rat_mul_zero h).elim id id
  ·rw [Bool.and_eq_true,Bool.or_eq_true,decide_eq_true_iff,decide_eq_true_iff] at e
   rw [h2.2 e.1]
   rcases e.2 with h | h
   ·rw [h];grind
   ·rw [h];grind
theorem sumL_deg {S : List Sq} {d:Nat} (hd:∀ k,k<S.length→DegN (sAt S k).p d) (hm:∀ k,k<S.length→∀ t∈(sAt S k).p,∀ i,i<8→0≤t.m i) {n N K:Nat} {e:Int} (hS:SqB S n N K e) (he:0≤e):∀ k,k≤S.length→DegN (sumL (S.take k)) (d+d)
 | 0,_=>DegN.nil
 | k+1,hk=>by
  have hs:=hS _ (sAt_mem (show k<S.length by omega))
  rw [sum_step (show k<S.length by omega),sumF]
  exact (sumL_deg hd hm hS he k (by omega)).add ((DegN.mul (hd k (by omega)) (hm k (by omega)) (hd k (by omega)) (hm k (by omega))).scl (nn_pb (hs.1.mul hs.1 he he)))
theorem madeA_nn (q : Rat):0≤madeA false q:=by
 unfold madeA
 split
 ·rename_i h
  have:=h.1
  have h1:q.num<0:=Int.sign_neg_iff.1 this
  have h2:¬ 0≤q:=fun h2=>absurd (Rat.num_nonneg.2 h2) (by omega)
  grind
 ·rename_i h
  have h1:¬ q.num.sign<0:=fun h1=>h ⟨h1,rfl⟩
  have h2:¬ q.num<0:=fun h2=>h1 (Int.sign_neg_iff.2 h2)
  exact Rat.num_nonneg.1 (by omega)
theorem sign_nn {q : Rat} (h:0≤q):0≤q.num.sign:=Int.sign_nonneg_iff.2 (Rat.num_nonneg.2 h)
theorem madeL_at {signs : Bool} {L:List Sr} {n k:Nat} (h:k<(madeL signs L n).length):∃ s∈L,sAt (madeL signs L n) k = madeSq signs s:=by
 obtain ⟨s,hs,e⟩:=List.mem_map.1 (sAt_mem h)
 exact ⟨s,List.mem_of_mem_take hs,e.symm⟩
def atQ (a b:Rat) (i:Nat):Rat:=if i = 0 then a else if i = 1 then b else ((0:Int):Rat)
def zrR (k : Nat):Nat→List D:=fun j=>if j<k then ratC ((0:Int):Rat) else zr4
theorem zrR_len (k j:Nat):(zrR k j).length = 4:=by
 unfold zrR
 split <;> rfl
theorem zrR_set (k : Nat):setR (zrR k) k (ratC ((0:Int):Rat)) = zrR (k+1):=by
 funext j
 simp only [setR,zrR]
 rcases Nat.lt_trichotomy j k with h1 | h1 | h1
 ·rw [if_neg (by omega),if_pos h1,if_pos (by omega)]
 ·subst h1;rw [if_pos rfl,if_pos (by omega)]
 ·rw [if_neg (by omega),if_neg (by omega),if_neg (by omega)]
theorem zrR_pt (a b:Rat):ptD (setR (setR (zrR 8) 0 (ratC a)) 1 (ratC b)) = ptC (atQ a b):=rfl
theorem sval_abs (T : Nat) (L:List Sr) (u v:Qr) (hL:∀ s∈L,s.Ok) (hu:u.Ok) (hv:v.Ok):Abs Tryz.prog 6 [srD T L,agD (qrC u),agD (qrC v)] (ex (.bool true)):=by
 have clist:=RsList_abs T L false hL 4 (by omega)
 have hlen:(madeL false L 4).length≤4:=by rw [madeL_length];omega
 have hB:=madeL_b (signs:=false) hL 4
 have ha0:∀ k,k<(madeL false L 4).length→0≤(sAt (madeL false L 4) k).a:=fun k hk=>by
  obtain ⟨s,_,e⟩:=madeL_at hk
  rw [e]
  exact madeA_nn _
 have hdeg:∀ k,k<(madeL false L 4).length→DegN (sAt (madeL false L 4) k).p 2:=fun k hk=>by
  obtain ⟨s,_,e⟩:=madeL_at hk
  rw [e]
  exact madeP_deg s.X 2 3 (by omega)
 generalize madeL false L 4 = S at clist hlen hB ha0 hdeg
 have hnn:∀ k,k<S.length→∀ t∈(sAt S k).p,∀ i,i<8→0≤t.m i:=fun k hk=>nn_pb (hB _ (sAt_mem hk)).1
 have hs:=(sum_pb hB (by omega) S.length (Nat.le_refl _)).mono (n':=36) (N':=272) (d':=4) (by omega) (by omega) (by omega)
 have hd:=sumL_deg hdeg hnn hB (by omega) S.length (Nat.le_refl _)
 have cu:=qMade_abs u hu
 have cv:=qMade_abs v hv
 have hx:∀ i,i<8→RSz (atQ (madeQ u) (madeQ v) i) 10:=fun i _=>by
  unfold atQ
  split
  ·exact madeQ_sz hu
  ·split
   ·exact madeQ_sz hv
   ·exact RSz.mono (rsz_sm (by omega) (by omega):RSz _ 1) (by omega)
 have hval:=sum_val (x:=atQ (madeQ u) (madeQ v)) ha0 hnn S.length (Nat.le_refl _)
 rw [List.take_length] at hs hd hval
 have hdl:degL (sumL S)≤4:=degL_le hd (nn_pb hs)
 have hdl0:degL (sumL S) = degL (sumL S):=rfl
 have hsl:=hs.len
 have cdeg:=RDeg_abs (sumL S) (hs.ex.mono (Int.le_refl _) (by omega)) (by omega)
 have ceval:=REval_abs (sumL S) (atQ (madeQ u) (madeQ v)) 272 4 10 1000 hs.sz hs.ex hx (by omega) (by omega) (by omega) (by omega) (by omega)
 have hpt:=zrR_pt (madeQ u) (madeQ v)
 generalize atQ (madeQ u) (madeQ v) = x at hx hval ceval hpt
 have hsg:=sign_nn hval.1
 refine Ab Tryz.func6 fun s0=>?_
 rw [Tryz.ntmps6]
 apply Y1;refine Bx ?_;refine Bx ?_;refine Wa ?_;apply Y0;apply Y1;refine Wq (Qz.call (sanity28_abs)) ?_;refine Wa ?_;apply Y0;apply AWp.seq;apply Y1;refine Wm ?_;refine Wq Qz.not ?_;apply Y0;refine Cf ?_;apply Ys;apply Y1;refine Wm ?_;refine Wq (Qz.call (clist)) ?_;refine Wa ?_;apply Y0;apply Y1;(refine AWs.q rfl rfl ?_;(refine Bq.arr (tab_of rfl) (tab_of rfl) rfl rfl ?_;(repeat ((first | refine ⟨_,PartOk.ag (ao rfl),?_⟩ | refine ⟨_,PartOk.one rfl (by first | exact One.ex_ rfl | exact One.sl | exact One.ep),?_⟩);refine ⟨_,rfl,?_⟩));refine ⟨_,rfl,?_⟩));refine Al ?_;refine Sf ?_;apply Y0;apply AWp.seq;apply Y1;refine Wa ?_;apply Y0;apply AWp.block
 refine AWp.loop (fun mz σ=>∃ k,k≤8∧mz = 8 - k∧σ = ⟨[(4,.ptr 0 0),(5,.ptr 1 0),(7,.d (ex (.bool true))),(8,.d (sqD S)),(9,.ptr 2 0),(10,.d (ex (.int .i64 (k:Nat))))],[.var 77 ((qrC u).map .d),.var 77 ((qrC v).map .d),.var 78 ((ptD (zrR k)).map .d)]⟩) ?le ⟨0,by omega,rfl,rfl⟩ ?round
 case le=>exact AS.le_of (by refine Yp ?_;refine Yp ?_;refine Yd ?_;refine Yd ?_;refine Yp ?_;refine Yd ?_;exact FrLe.nil) (by apply Yv;apply Yv;apply Yv;exact HpLe.nil)
 case round =>
  rintro mz _ ⟨k,hk,rfl,rfl⟩
  by_cases hlt:k<8
  ·apply AWp.seq; apply AWp.seq; apply AWp.region; refine Wm ?_; refine Wq Qz.cmpT ?_; apply AWl.nil; apply Yn; refine Ct ?_; apply AWp.skip; apply Yn; apply AWp.seq; apply AWp.block; apply AWp.region; refine Wm ?_; refine Wq (Qz.call (RWhole_abs 0 (by omega) (by omega))) ?_; refine Wq Qz.ixP ?_; refine AWs.stX (ao rfl) (ao rfl) rfl (tab_of rfl) rfl (SetAt.pt (zrR_len k) hlt rfl) rfl ?_; apply AWl.nil; apply ABlock.normal; apply Yn; apply AWp.region; refine Wm ?_; refine Wq Qz.succ ?_; refine Wa ?_; apply AWl.nil
   refine ALoop.next (8 - (k+1)) (by omega) ⟨k+1,by omega,rfl,rfl⟩ ?_
   exact AS.le_of (by refine Yp ?_;refine Yp ?_;refine Yd ?_;refine Yd ?_;refine Yp ?_;refine Yd ?_;exact FrLe.nil) (by apply Yv;apply Yv;refine HpLe.cons (OwLe.varD (by rw [← zrR_set])) ?_;exact HpLe.nil)
  ·obtain rfl : k = 8 := by omega
   apply AWp.seq;apply Y1;refine Wm ?_;refine Wq Qz.cmpF ?_;apply Y0;refine Cf ?_;apply AWp.exit;apply AThen.exit;apply ALoop.exit;apply ABlock.hit;apply Yn;apply Y1;refine Wq Qz.ldD ?_;refine Wq (Qz.call (cu)) ?_;refine Wq Qz.ixPL ?_;refine AWs.stX (ao rfl) (ao rfl) rfl (tab_of rfl) rfl (SetAt.pt (zrR_len 8) (by decide) rfl) rfl ?_;apply Y0;apply Y1;refine Wq Qz.ldD ?_;refine Wq (Qz.call (cv)) ?_;refine Wq Qz.ixPL ?_;refine AWs.stX (ao rfl) (ao rfl) rfl (tab_of rfl) rfl (SetAt.pt (setR_len (zrR_len 8) rfl) (by decide) rfl) rfl ?_;apply Y0;apply Y1;refine Wm ?_;refine Wq (Qz.call (sSum_abs S 3 9 10 2 hB (by omega) (by omega) (by omega) (by omega) (by omega) (by omega))) ?_;refine Wm ?_;refine Wq Qz.ext ?_;refine Wq Qz.ext ?_;refine Wa ?_;refine Wa ?_;apply Y0;apply AWp.seq;apply Y1;refine Wm ?_;refine Wq Qz.cmpF ?_;refine Wm ?_;refine Wg Qz.move ?_;refine Wg (Qz.call (RPValid_pb hs (by omega) (by omega) (by omega))) ?_;refine Wg Qz.not ?_;refine Wq Qz.pickF ?_;refine Wm ?_;refine Wg Qz.move ?_;refine Wg (Qz.call (cdeg)) ?_;refine Wg Qz.cmpF ?_;refine Wq Qz.pickF ?_;refine Wm ?_;refine Wg Qz.move ?_;refine Wg (Qz.call (sValT_abs S (by omega) (fun k hk=>sign_nn (ha0 k hk)))) ?_;refine Wg Qz.not ?_;refine Wq Qz.pickF ?_;apply Y0;refine Cf ?_;apply Ys;apply Y1;refine Wa ?_;apply Y0;apply AWp.seq;apply Y1;refine Wa ?_;apply Y0;apply AWp.block
   refine AWp.loop (fun mz σ=>∃ k,k≤S.length∧mz = S.length - k∧σ = ⟨[(7,.d (ex (.bool true))),(8,.d (sqD S)),(9,.ptr 2 0),(11,.d (polD (sumL S))),(13,.d (ex (.bool (zT x S k)))),(14,.d (ex (.int .i64 (k:Nat))))],[.dead,.dead,.var 78 ((ptC x).map .d)]⟩) ?le ⟨0,by omega,rfl,rfl⟩ ?round
   case le=>exact AS.le_of (by refine Yd ?_;refine Yd ?_;refine Yp ?_;refine Yd ?_;refine Yd ?_;refine Yd ?_;exact FrLe.nil) (by refine HpLe.cons (OwLe.dead) ?_;refine HpLe.cons (OwLe.dead) ?_;refine HpLe.cons (OwLe.varD hpt) ?_;exact HpLe.nil)
   case round =>
    rintro mz _ ⟨k,hk,rfl,rfl⟩
    by_cases hlt:k<S.length
    ·have hbk:=(hB _ (sAt_mem hlt)).1
     have ek:=REval_abs (sAt S k).p x 9 2 10 1000 hbk.sz hbk.ex hx (by omega) (Nat.le_trans hbk.len (by omega)) (by omega) (by omega) (by omega)
     cases hz:zT x S k with
     | false =>
      apply AWp.seq;apply Y1;refine Wm ?_;refine Wm ?_;refine Wq Qz.lenN ?_;refine Wq Qz.cmpT ?_;apply Y0;refine Ct ?_;apply Ys;apply AWp.seq;apply AWp.block
      refine AWp.dr' (DrawOk.self (by kernel_rfl)) [[],[(63,0)],[],[],[(65,2),(66,3)],[(67,4)],[(68,5)],[(69,6)],[(70,7)],[(71,8)],[],[],[(73,10),(74,11)],[(75,12)],[(76,13)],[],[(77,14),(78,15)],[(79,16)],[(80,17)],[(72,9),(81,18)],[(64,1),(82,19)]] [[],[0],[0,1],[0,1],[0,1,2,3],[0,1,2,3,4],[0,1,2,3,4,5],[0,1,2,3,4,5,6],[0,1,2,3,4,5,6,7],[0,1,2,3,4,5,6,7,8],[0,1,2,3,4,5,6,7,8,9],[0,1,2,3,4,5,6,7,8,9],[0,1,2,3,4,5,6,7,8,9,10,11],[0,1,2,3,4,5,6,7,8,9,10,11,12],[0,1,2,3,4,5,6,7,8,9,10,11,12,13],[0,1,2,3,4,5,6,7,8,9],[0,1,2,3,4,5,6,7,8,9,10,11,12,13,14,15],[0,1,2,3,4,5,6,7,8,9,10,11,12,13,14,15,16],[0,1,2,3,4,5,6,7,8,9,10,11,12,13,14,15,16,17],[0,1,2,3,4,5,6,7,8,9,10,11,12,13,14,15,16,17,18],[0,1,2,3,4,5,6,7,8,9,10,11,12,13,14,15,16,17,18,19]] rfl (by kernel_rfl) (by kernel_rfl) (by kernel_rfl) ?_
      refine Xq Qz.move ?_;refine Xq Qz.move ?_;refine Xs ?_;refine Xs ?_;refine Xs ?_;refine Xs ?_;refine Xs ?_;refine Xs ?_;refine Xs ?_;refine Xs ?_;refine Xs ?_;refine Xs ?_;refine Xs ?_;refine Xs ?_;refine Xs ?_;refine Xs ?_;refine Xs ?_;refine Xs ?_;refine Xs ?_;refine Xs ?_;refine Xq Qz.pickF ?_;refine ⟨_,rfl,?_⟩
      refine Wa ?_;apply AWl.nil;apply ABlock.normal;apply Yn;apply AWp.region;refine Wm ?_;refine Wq Qz.succ ?_;refine Wa ?_;apply AWl.nil
      refine ALoop.next (S.length - (k+1)) (by omega) ⟨k+1,by omega,rfl,rfl⟩ ?_
      exact AS.le_of (by refine Yd ?_;refine Yd ?_;refine Yp ?_;refine Yd ?_;(refine FrLe.cons rfl (AVle.bool (by rw [zT,hz];rfl)) ?_);refine Yd ?_;exact FrLe.nil) (by refine HpLe.cons (OwLe.dead) ?_;refine HpLe.cons (OwLe.dead) ?_;apply Yv;exact HpLe.nil)
     | true =>
      by_cases ha:(sAt S k).a = 0
      ·have hsa:(sAt S k).a.num.sign = 0:=num_sign0.2 ha
       apply AWp.seq;apply Y1;refine Wm ?_;refine Wm ?_;refine Wq Qz.lenN ?_;refine Wq Qz.cmpT ?_;apply Y0;refine Ct ?_;apply Ys;apply AWp.seq;apply AWp.block
       refine AWp.dr' (DrawOk.self (by kernel_rfl)) [[],[(63,0)],[],[],[(65,2),(66,3)],[(67,4)],[(68,5)],[(69,6)],[(70,7)],[(71,8)],[],[],[(73,10),(74,11)],[(75,12)],[(76,13)],[],[(77,14),(78,15)],[(79,16)],[(80,17)],[(72,9),(81,18)],[(64,1),(82,19)]] [[],[0],[0,1],[0,1],[0,1,2,3],[0,1,2,3,4],[0,1,2,3,4,5],[0,1,2,3,4,5,6],[0,1,2,3,4,5,6,7],[0,1,2,3,4,5,6,7,8],[0,1,2,3,4,5,6,7,8,9],[0,1,2,3,4,5,6,7,8,9],[0,1,2,3,4,5,6,7,8,9,10,11],[0,1,2,3,4,5,6,7,8,9,10,11,12],[0,1,2,3,4,5,6,7,8,9,10,11,12,13],[0,1,2,3,4,5,6,7,8,9],[0,1,2,3,4,5,6,7,8,9,10,11,12,13,14,15],[0,1,2,3,4,5,6,7,8,9,10,11,12,13,14,15,16],[0,1,2,3,4,5,6,7,8,9,10,11,12,13,14,15,16,17],[0,1,2,3,4,5,6,7,8,9,10,11,12,13,14,15,16,17,18],[0,1,2,3,4,5,6,7,8,9,10,11,12,13,14,15,16,17,18,19]] rfl (by kernel_rfl) (by kernel_rfl) (by kernel_rfl) ?_
       refine Xq Qz.move ?_;refine Xq Qz.move ?_;refine Xg Qz.move ?_;refine Xg Qz.move ?_;refine Xg Qz.indexN ?_;refine Xg Qz.fldE ?_;refine Xg Qz.ldE ?_;refine Xg (Qz.call (RSign_abs (sAt S k).a)) ?_;refine Xg Qz.cmpT ?_;refine Xg Qz.move ?_;refine Xs ?_;refine Xs ?_;refine Xs ?_;refine Xs ?_;refine Xs ?_;refine Xs ?_;refine Xs ?_;refine Xs ?_;refine Xs ?_;refine Xg Qz.pickT ?_;refine Xq Qz.pickT ?_;refine ⟨_,rfl,?_⟩
       refine Wa ?_;apply AWl.nil;apply ABlock.normal;apply Yn;apply AWp.region;refine Wm ?_;refine Wq Qz.succ ?_;refine Wa ?_;apply AWl.nil
       refine ALoop.next (S.length - (k+1)) (by omega) ⟨k+1,by omega,rfl,rfl⟩ ?_
       exact AS.le_of (by refine Yd ?_;refine Yd ?_;refine Yp ?_;refine Yd ?_;(refine FrLe.cons rfl (AVle.bool (by rw [zT,hz,decide_eq_true ha];rfl)) ?_);refine Yd ?_;exact FrLe.nil) (by refine HpLe.cons (OwLe.dead) ?_;refine HpLe.cons (OwLe.dead) ?_;apply Yv;exact HpLe.nil)
      ·have hsa:(sAt S k).a.num.sign ≠ 0:=fun e=>ha (num_sign0.1 e)
       by_cases he:evF x (sAt S k).p = 0
       ·have hse:(evF x (sAt S k).p).num.sign = 0:=num_sign0.2 he
        apply AWp.seq;apply Y1;refine Wm ?_;refine Wm ?_;refine Wq Qz.lenN ?_;refine Wq Qz.cmpT ?_;apply Y0;refine Ct ?_;apply Ys;apply AWp.seq;apply AWp.block
        refine AWp.dr' (DrawOk.self (by kernel_rfl)) [[],[(63,0)],[],[],[(65,2),(66,3)],[(67,4)],[(68,5)],[(69,6)],[(70,7)],[(71,8)],[],[],[(73,10),(74,11)],[(75,12)],[(76,13)],[],[(77,14),(78,15)],[(79,16)],[(80,17)],[(72,9),(81,18)],[(64,1),(82,19)]] [[],[0],[0,1],[0,1],[0,1,2,3],[0,1,2,3,4],[0,1,2,3,4,5],[0,1,2,3,4,5,6],[0,1,2,3,4,5,6,7],[0,1,2,3,4,5,6,7,8],[0,1,2,3,4,5,6,7,8,9],[0,1,2,3,4,5,6,7,8,9],[0,1,2,3,4,5,6,7,8,9,10,11],[0,1,2,3,4,5,6,7,8,9,10,11,12],[0,1,2,3,4,5,6,7,8,9,10,11,12,13],[0,1,2,3,4,5,6,7,8,9],[0,1,2,3,4,5,6,7,8,9,10,11,12,13,14,15],[0,1,2,3,4,5,6,7,8,9,10,11,12,13,14,15,16],[0,1,2,3,4,5,6,7,8,9,10,11,12,13,14,15,16,17],[0,1,2,3,4,5,6,7,8,9,10,11,12,13,14,15,16,17,18],[0,1,2,3,4,5,6,7,8,9,10,11,12,13,14,15,16,17,18,19]] rfl (by kernel_rfl) (by kernel_rfl) (by kernel_rfl) ?_
        refine Xq Qz.move ?_;refine Xq Qz.move ?_;refine Xg Qz.move ?_;refine Xg Qz.move ?_;refine Xg Qz.indexN ?_;refine Xg Qz.fldE ?_;refine Xg Qz.ldE ?_;refine Xg (Qz.call (RSign_abs (sAt S k).a)) ?_;refine Xg Qz.cmpF ?_;refine Xg Qz.move ?_;refine Xg Qz.move ?_;refine Xg Qz.move ?_;refine Xg Qz.indexN ?_;refine Xg Qz.fldE ?_;refine Xg Qz.ldE1 ?_;refine Xg Qz.ldD ?_;refine Xg (Qz.call (ek)) ?_;refine Xg (Qz.call (RSign_abs (evF x (sAt S k).p))) ?_;refine Xg Qz.cmpT ?_;refine Xg Qz.pickF ?_;refine Xq Qz.pickT ?_;refine ⟨_,rfl,?_⟩
        refine Wa ?_;apply AWl.nil;apply ABlock.normal;apply Yn;apply AWp.region;refine Wm ?_;refine Wq Qz.succ ?_;refine Wa ?_;apply AWl.nil
        refine ALoop.next (S.length - (k+1)) (by omega) ⟨k+1,by omega,rfl,rfl⟩ ?_
        exact AS.le_of (by refine Yd ?_;refine Yd ?_;refine Yp ?_;refine Yd ?_;(refine FrLe.cons rfl (AVle.bool (by rw [zT,hz,decide_eq_true he,Bool.or_true];rfl)) ?_);refine Yd ?_;exact FrLe.nil) (by refine HpLe.cons (OwLe.dead) ?_;refine HpLe.cons (OwLe.dead) ?_;apply Yv;exact HpLe.nil)
       ·have hse:(evF x (sAt S k).p).num.sign ≠ 0:=fun e=>he (num_sign0.1 e)
        apply AWp.seq;apply Y1;refine Wm ?_;refine Wm ?_;refine Wq Qz.lenN ?_;refine Wq Qz.cmpT ?_;apply Y0;refine Ct ?_;apply Ys;apply AWp.seq;apply AWp.block
        refine AWp.dr' (DrawOk.self (by kernel_rfl)) [[],[(63,0)],[],[],[(65,2),(66,3)],[(67,4)],[(68,5)],[(69,6)],[(70,7)],[(71,8)],[],[],[(73,10),(74,11)],[(75,12)],[(76,13)],[],[(77,14),(78,15)],[(79,16)],[(80,17)],[(72,9),(81,18)],[(64,1),(82,19)]] [[],[0],[0,1],[0,1],[0,1,2,3],[0,1,2,3,4],[0,1,2,3,4,5],[0,1,2,3,4,5,6],[0,1,2,3,4,5,6,7],[0,1,2,3,4,5,6,7,8],[0,1,2,3,4,5,6,7,8,9],[0,1,2,3,4,5,6,7,8,9],[0,1,2,3,4,5,6,7,8,9,10,11],[0,1,2,3,4,5,6,7,8,9,10,11,12],[0,1,2,3,4,5,6,7,8,9,10,11,12,13],[0,1,2,3,4,5,6,7,8,9],[0,1,2,3,4,5,6,7,8,9,10,11,12,13,14,15],[0,1,2,3,4,5,6,7,8,9,10,11,12,13,14,15,16],[0,1,2,3,4,5,6,7,8,9,10,11,12,13,14,15,16,17],[0,1,2,3,4,5,6,7,8,9,10,11,12,13,14,15,16,17,18],[0,1,2,3,4,5,6,7,8,9,10,11,12,13,14,15,16,17,18,19]] rfl (by kernel_rfl) (by kernel_rfl) (by kernel_rfl) ?_
        refine Xq Qz.move ?_;refine Xq Qz.move ?_;refine Xg Qz.move ?_;refine Xg Qz.move ?_;refine Xg Qz.indexN ?_;refine Xg Qz.fldE ?_;refine Xg Qz.ldE ?_;refine Xg (Qz.call (RSign_abs (sAt S k).a)) ?_;refine Xg Qz.cmpF ?_;refine Xg Qz.move ?_;refine Xg Qz.move ?_;refine Xg Qz.move ?_;refine Xg Qz.indexN ?_;refine Xg Qz.fldE ?_;refine Xg Qz.ldE1 ?_;refine Xg Qz.ldD ?_;refine Xg (Qz.call (ek)) ?_;refine Xg (Qz.call (RSign_abs (evF x (sAt S k).p))) ?_;refine Xg Qz.cmpF ?_;refine Xg Qz.pickF ?_;refine Xq Qz.pickT ?_;refine ⟨_,rfl,?_⟩
        refine Wa ?_;apply AWl.nil;apply ABlock.normal;apply Yn;apply AWp.region;refine Wm ?_;refine Wq Qz.succ ?_;refine Wa ?_;apply AWl.nil
        refine ALoop.next (S.length - (k+1)) (by omega) ⟨k+1,by omega,rfl,rfl⟩ ?_
        exact AS.le_of (by refine Yd ?_;refine Yd ?_;refine Yp ?_;refine Yd ?_;(refine FrLe.cons rfl (AVle.bool (by rw [zT,hz,decide_eq_false ha,decide_eq_false he];rfl)) ?_);refine Yd ?_;exact FrLe.nil) (by refine HpLe.cons (OwLe.dead) ?_;refine HpLe.cons (OwLe.dead) ?_;apply Yv;exact HpLe.nil)
    ·obtain rfl : k = S.length := by omega
     cases hz:zT x S S.length with
     | false =>
      have hne:(evF x (sumL S)).num.sign ≠ 0:=fun e=>by
       rw [hval.2.1 (num_sign0.1 e)] at hz
       cases hz
      apply AWp.seq;apply Y1;refine Wm ?_;refine Wm ?_;refine Wq Qz.lenN ?_;refine Wq Qz.cmpF ?_;apply Y0;refine Cf ?_;apply AWp.exit;apply AThen.exit;apply ALoop.exit;apply ABlock.hit;apply Yn;apply Y1;refine Wm ?_;refine Wq Qz.ldD ?_;refine Wq (Qz.call (ceval)) ?_;refine Wq (Qz.call (RSign_abs (evF x (sumL S)))) ?_;refine Wa ?_;apply Y0;apply Y1;refine Wm ?_;refine Wm ?_;refine Wg Qz.move ?_;refine Wg Qz.cmpT ?_;refine Wq Qz.pickT ?_;refine Wm ?_;refine Wg Qz.move ?_;refine Wg Qz.cmpF ?_;refine Wg Qz.move ?_;refine Wg Qz.eqBool ?_;refine Wq Qz.pickT ?_;refine Wa ?_;apply Y0;apply AWp.ret
      exact Yf
     | true =>
      have hze:(evF x (sumL S)).num.sign = 0:=num_sign0.2 (hval.2.2 hz)
      apply AWp.seq;apply Y1;refine Wm ?_;refine Wm ?_;refine Wq Qz.lenN ?_;refine Wq Qz.cmpF ?_;apply Y0;refine Cf ?_;apply AWp.exit;apply AThen.exit;apply ALoop.exit;apply ABlock.hit;apply Yn;apply Y1;refine Wm ?_;refine Wq Qz.ldD ?_;refine Wq (Qz.call (ceval)) ?_;refine Wq (Qz.call (RSign_abs (evF x (sumL S)))) ?_;refine Wa ?_;apply Y0;apply Y1;refine Wm ?_;refine Wm ?_;refine Wg Qz.move ?_;refine Wg Qz.cmpT ?_;refine Wq Qz.pickT ?_;refine Wm ?_;refine Wg Qz.move ?_;refine Wg Qz.cmpT ?_;refine Wg Qz.move ?_;refine Wg Qz.eqBool ?_;refine Wq Qz.pickT ?_;refine Wa ?_;apply Y0;apply AWp.ret
      exact Yf
end Go.Proofs.YtnhgojfjmhjokaaGreat
