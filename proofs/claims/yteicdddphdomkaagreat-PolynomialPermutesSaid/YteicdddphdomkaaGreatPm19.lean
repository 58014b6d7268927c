/- Part 19 of the proof of polynomialPermutes_holds. No condition. -/
import Derived.Test.YteicdddphdomkaaGreatPm18
set_option linter.unusedSimpArgs false
set_option linter.unusedVariables false
set_option maxRecDepth 100000
set_option maxHeartbeats 8000000
namespace Go.Proofs.YteicdddphdomkaaGreat
open Go.RowKit
theorem CellAt.b8e {b : Nat→Bool} {k:Nat} {u:Bool} (h:k<8) (e:b k = u):CellAt (bool8 b) (0+k*1) (ex (.bool u)):=e ▸ CellAt.b8 h
theorem tab_mono_map : Tab Tryz.prog 93 (.map 31 29) 1 8 (.map none):=⟨by kernel_rfl,by kernel_rfl⟩
theorem PPermT_abs (P : List Tm) (f:Nat→Int) (hf:PmOk f) {n N:Nat} {d:Int} (hP:PB P n N d) (h0:0≤d) (hn:n≤100000):Abs Tryz.prog 50 [polD P,agD (monC f)] (tupD [polD (rmovF f P),ex (.int .i64 0)]):=by
 have hPl:=hP.len
 refine Ab Tryz.func50 fun s0=>?_
 rw [Tryz.ntmps50]
 apply Y1;refine AWs.bx (ao rfl) rfl rfl rfl rfl ?_;refine Wa ?_;refine Wa ?_;apply Y0;apply Y1;refine AWs.al (tab_of rfl) rfl rfl rfl rfl rfl rfl ?_;apply Y0;apply AWp.seq;apply Y1;refine Wq Qz.ldD ?_;refine Wm ?_;apply Y0;apply AWp.block
 refine AWp.loop (fun mz σ=>∃ k,k≤8∧mz = 8 - k∧σ = ⟨[(0,.d (polD P)),(3,.ptr 0 0),(6,.ptr 1 0),(15,.d (agD (monC f))),(16,.d (ex (.int .i64 (k:Nat))))],[.var 30 ((monC f).map .d),.var 126 ((bool8 (seenF f k)).map .d)]⟩) ?le ⟨0,by omega,rfl,rfl⟩ ?round
 case le=>exact AS.le_of (by refine Yd ?_;refine Yp ?_;refine Yp ?_;refine Yd ?_;refine Yd ?_;exact FrLe.nil) (by apply Yv;apply Yv;exact HpLe.nil)
 case round =>
  rintro mz _ ⟨k,hk,rfl,rfl⟩
  by_cases hlt:k<8
  ·obtain ⟨h1,h2,h3⟩:=hf k hlt
   have hno:=seenF_no (fun i hi=>hf i (by omega)) (hf k hlt)
   have hset:=seenF_set f k
   apply Y1;refine Wq Qz.cmpT ?_;apply Y0;apply AWp.seq;refine Ct ?_;apply Ys;apply AWp.seq;apply AWp.block;apply Y1;refine Wq Qz.atX1 ?_;refine Wa ?_;apply Y0;apply AWp.seq;apply Y1;refine Wm ?_;refine Wq Qz.cmpF ?_;refine Wm ?_;refine Wg Qz.move ?_;refine Wg Qz.cmpF ?_;refine Wq Qz.pickF ?_;refine Wm ?_;refine Wg Qz.move ?_;(refine AWs.qG rfl rfl rfl rfl rfl ?_;refine ⟨_,Qs.ixPL (i:=f k) (ao rfl) (ao rfl) (tab_of rfl) (tab_of rfl) (by omega) (by omega),?_⟩);(refine AWs.qG rfl rfl rfl rfl rfl ?_;refine ⟨_,Qs.ldX1 (ao rfl) rfl (tab_of rfl) rfl (CellAt.b8e (by omega) hno),?_⟩);refine Wq Qz.pickF ?_;apply Y0;refine Cf ?_;apply Ys;apply AWp.region;refine Wm ?_;(refine AWs.q rfl rfl ?_;refine ⟨_,Qs.ixPL (i:=f k) (ao rfl) (ao rfl) (tab_of rfl) (tab_of rfl) (by omega) (by omega),?_⟩);refine AWs.stX1 (ao rfl) (ao rfl) rfl (tab_of rfl) (One.ex_ rfl) (SetAt.b8 (by omega)) rfl ?_;apply AWl.nil;apply ABlock.normal;apply Yn;apply AWp.region;refine Wq Qz.succ ?_;refine Wm ?_;apply AWl.nil
   refine ALoop.next (8 - (k+1)) (by omega) ⟨k+1,by omega,rfl,rfl⟩ ?_
   exact AS.le_of (by refine Yd ?_;refine Yp ?_;refine Yp ?_;refine Yd ?_;refine Yd ?_;exact FrLe.nil) (by apply Yv;refine HpLe.cons (OwLe.varD (by rw [hset])) ?_;exact HpLe.nil)
  ·obtain rfl : k = 8 := by omega
   apply Y1;refine Wq Qz.cmpF ?_;apply Y0;apply AWp.seq;refine Cf ?_;apply AWp.exit;apply AThen.exit;apply ALoop.exit;apply ABlock.hit;apply Yn;apply Y1;refine AWs.mnew rfl rfl rfl ?_;refine Wa ?_;apply Y0;apply AWp.seq;apply Y1;refine Wm ?_;refine Wq Qz.lenN ?_;refine Wm ?_;apply Y0;apply AWp.block
   refine AWp.loop (fun mz σ=>∃ k,k≤P.length∧mz = P.length - k∧σ = ⟨[(3,.ptr 0 0),(9,.own 2),(34,.d (polD P)),(35,.d (ex (.int .i64 (P.length:Nat)))),(36,.d (ex (.int .i64 (k:Nat))))],[.var 30 ((monC f).map .d),.var 126 ((bool8 (seenF f 8)).map .d),.obj (mapO (entD (movL f (P.take k))))]⟩) ?le ⟨0,by omega,rfl,rfl⟩ ?round
   case le=>exact AS.le_of (by refine Yp ?_;refine FrLe.cons rfl (AVle.own rfl) ?_;refine Yd ?_;refine Yd ?_;refine Yd ?_;exact FrLe.nil) (by apply Yv;apply Yv;refine HpLe.cons (OwLe.obj rfl) ?_;exact HpLe.nil)
   case round =>
    rintro mz _ ⟨k,hk,rfl,rfl⟩
    by_cases hlt:k<P.length
    ·have hnew:=entD_no.2 (movL_new hf hP.can.1 hlt)
     have hput:putK (entD (movL f (P.take k))) (movS f (tAt P k).m 8) (agD (ratC (tAt P k).c)) none = entD (movL f (P.take (k+1))):=by rw [movL_take hlt];simp [entD,putK]
     apply Y1;refine Wq Qz.cmpT ?_;apply Y0;apply AWp.seq;refine Ct ?_;apply Ys;apply AWp.seq;apply AWp.block;apply Y1;refine Wq Qz.indexN ?_;refine Wq Qz.loadEf ?_;refine AWs.al (tab_of rfl) rfl rfl rfl rfl rfl rfl ?_;refine Sf ?_;apply Y0;apply Y1;refine AWs.al (tab_of rfl) rfl rfl rfl rfl rfl rfl ?_;apply Y0;apply AWp.seq;apply Y1;refine Wq Qz.fldP ?_;refine Wq Qz.ldD ?_;refine Wm ?_;apply Y0;apply AWp.block
     refine AWp.loop (fun mz σ=>∃ i,i≤8∧mz = 8 - i∧σ = ⟨[(3,.ptr 0 0),(9,.own 2),(34,.d (polD P)),(35,.d (ex (.int .i64 (P.length:Nat)))),(36,.d (ex (.int .i64 (k:Nat)))),(11,.ptr 3 0),(12,.ptr 4 0),(41,.d (agD (monC (tAt P k).m))),(42,.d (ex (.int .i64 (i:Nat))))],[.var 30 ((monC f).map .d),.var 126 ((bool8 (seenF f 8)).map .d),.obj (mapO (entD (movL f (P.take k)))),.var 33 ((tmC (tAt P k)).map .d),.var 31 ((monC (movS f (tAt P k).m i)).map .d)]⟩) ?lei ⟨0,by omega,rfl,rfl⟩ ?roundi
     case lei=>exact AS.le_of (by refine Yp ?_;refine FrLe.cons rfl (AVle.own rfl) ?_;refine Yd ?_;refine Yd ?_;refine Yd ?_;refine Yp ?_;refine Yp ?_;refine Yd ?_;refine Yd ?_;exact FrLe.nil) (by apply Yv;apply Yv;refine HpLe.cons (OwLe.obj rfl) ?_;apply Yv;apply Yv;exact HpLe.nil)
     case roundi =>
      rintro mz _ ⟨i,hi,rfl,rfl⟩
      by_cases hlti:i<8
      ·obtain ⟨h1,h2,h3⟩:=hf i hlti
       apply Y1;refine Wq Qz.cmpT ?_;apply Y0;apply AWp.seq;refine Ct ?_;apply Ys;apply AWp.seq;apply AWp.block;apply Y1;refine Wm ?_;refine Wq Qz.atX1 ?_;refine Wa ?_;refine Wa ?_;apply Y0;apply AWp.region;refine Wm ?_;refine Wq Qz.ixP ?_;refine Wq Qz.ldX1 ?_;refine Wm ?_;(refine AWs.q rfl rfl ?_;refine ⟨_,Qs.ixPL (i:=f i) (ao rfl) (ao rfl) (tab_of rfl) (tab_of rfl) (by omega) (by omega),?_⟩);refine AWs.stX1 (ao rfl) (ao rfl) rfl (tab_of rfl) (One.ex_ rfl) (SetAt.mon (by omega)) rfl ?_;apply AWl.nil;apply ABlock.normal;apply Yn;apply AWp.region;refine Wq Qz.succ ?_;refine Wm ?_;apply AWl.nil
       refine ALoop.next (8 - (i+1)) (by omega) ⟨i+1,by omega,rfl,rfl⟩ ?_
       exact AS.le_of (by refine Yp ?_;refine FrLe.cons rfl (AVle.own rfl) ?_;refine Yd ?_;refine Yd ?_;refine Yd ?_;refine Yp ?_;refine Yp ?_;refine Yd ?_;refine Yd ?_;exact FrLe.nil) (by apply Yv;apply Yv;refine HpLe.cons (OwLe.obj rfl) ?_;apply Yv;apply Yv;exact HpLe.nil)
      ·obtain rfl : i = 8 := by omega
       apply Y1;refine Wq Qz.cmpF ?_;apply Y0;apply AWp.seq;refine Cf ?_;apply AWp.exit;apply AThen.exit;apply ALoop.exit;apply ABlock.hit;apply Yn;apply AWp.region;refine Wm ?_;refine Wq Qz.ldD ?_;refine Wq Qz.fldP ?_;refine Wq Qz.ldD ?_;refine AWs.mset none (Hit.no hnew) (ao rfl) rfl (ao rfl) rfl tab_mono_map rfl ?_;apply AWl.nil;apply ABlock.normal;apply Yn;apply AWp.region;refine Wq Qz.succ ?_;refine Wm ?_;apply AWl.nil
       refine ALoop.next (P.length - (k+1)) (by omega) ⟨k+1,by omega,rfl,rfl⟩ ?_
       exact AS.le_of (by refine Yp ?_;refine FrLe.cons rfl (AVle.own rfl) ?_;refine Yd ?_;refine Yd ?_;refine Yd ?_;exact FrLe.nil) (by apply Yv;apply Yv;refine HpLe.cons (OwLe.obj (congrArg mapO hput)) ?_;exact HpLe.nil)
    ·obtain rfl : k = P.length := by omega
     have hE:(movL f (P.take P.length)).length≤100000:=by rw [List.take_length,movL,List.length_map];omega
     apply Y1;refine Wq Qz.cmpF ?_;apply Y0;apply AWp.seq;refine Cf ?_;apply AWp.exit;apply AThen.exit;apply ALoop.exit;apply ABlock.hit;apply Yn;apply Y1;refine Wm ?_
     refine AWs.con [2] [] (sorted_con _ hE) (by first | exact Or.inl rfl | exact Or.inr ⟨by decide,rfl,by repeat (first | exact AvoidR.nil | refine AvoidR.give rfl ?_ | refine AvoidR.dead ?_ | refine AvoidR.row ?_ | refine AvoidR.obj ?_ | refine AvoidR.varD ?_ | refine AvoidR.varA rfl ?_ | refine AvoidR.pin rfl ?_)⟩) rfl rfl (by first | exact .inl ⟨rfl,rfl⟩ | exact .inr ⟨rfl,rfl⟩) (by repeat (first | exact ArgsC.nil | refine ArgsC.d rfl (D.le.refl _) ?_ | refine ArgsC.av rfl rfl ?_)) (by decide) (by repeat (first | exact SelR.nil | refine SelR.var rfl ?_ | refine SelR.obj rfl ?_ | refine SelR.row rfl ?_ | refine SelR.varA rfl rfl rfl ?_)) (by repeat (first | exact trivial | refine ⟨⟨_,_,rfl⟩,?_⟩)) rfl ?_
     rintro _ _ ⟨S,hS,rfl,rfl⟩
     refine ⟨_,_,_,(by first | exact AVRen.d | exact AVRen.own rfl | exact AVRen.ptr rfl | exact AVRen.fn rfl),(by repeat (first | exact SetR.nil | (apply SetR.cons;(first | exact OwRen.dead | exact OwRen.varD | exact OwRen.obj | exact OwRen.row | exact OwRen.varA rfl);exact rfl))),(by repeat (first | exact AppR.nil | (apply AppR.cons;(first | exact OwRen.dead | exact OwRen.varD | exact OwRen.obj | exact OwRen.row | exact OwRen.varA rfl);exact rfl))),?_⟩
     refine Wa ?_;refine Wa ?_;apply Y0;apply AWp.ret
     exact Fin.ret (Rets.of2 (ResV.tmp rfl rfl) (ResV.tmp rfl rfl) (D.le.tup2 (D.le.of_eq (polD_sim hS.1 (rmov_pb' hP h0).can (hS.2.1.trans (by rw [List.take_length];exact (rmov_sim f P).symm)))) (D.le.refl _)))
theorem PPermF_abs (P : List Tm) (f:Nat→Int) (hf:¬ PmOk f):Abs Tryz.prog 50 [polD P,agD (monC f)] (tupD [polD [],ex (.int .i64 1)]):=by
 obtain ⟨z,hz,hbef,hbad⟩:=(pmOk_or f).resolve_left hf
 refine Ab Tryz.func50 fun s0=>?_
 rw [Tryz.ntmps50]
 apply Y1;refine AWs.bx (ao rfl) rfl rfl rfl rfl ?_;refine Wa ?_;refine Wa ?_;apply Y0;apply Y1;refine AWs.al (tab_of rfl) rfl rfl rfl rfl rfl rfl ?_;apply Y0;apply AWp.seq;apply Y1;refine Wq Qz.ldD ?_;refine Wm ?_;apply Y0;apply AWp.block
 refine AWp.loop (fun mz σ=>∃ k,k≤z∧mz = z - k∧σ = ⟨[(0,.d (polD P)),(3,.ptr 0 0),(6,.ptr 1 0),(15,.d (agD (monC f))),(16,.d (ex (.int .i64 (k:Nat))))],[.var 30 ((monC f).map .d),.var 126 ((bool8 (seenF f k)).map .d)]⟩) ?le ⟨0,by omega,rfl,rfl⟩ ?round
 case le=>exact AS.le_of (by refine Yd ?_;refine Yp ?_;refine Yp ?_;refine Yd ?_;refine Yd ?_;exact FrLe.nil) (by apply Yv;apply Yv;exact HpLe.nil)
 case round =>
  rintro mz _ ⟨k,hk,rfl,rfl⟩
  by_cases hlt:k<z
  ·obtain ⟨h1,h2,h3⟩:=hbef k hlt
   have hno:=seenF_no (fun i hi=>hbef i (by omega)) (hbef k hlt)
   have hset:=seenF_set f k
   apply Y1;refine Wq Qz.cmpT ?_;apply Y0;apply AWp.seq;refine Ct ?_;apply Ys;apply AWp.seq;apply AWp.block;apply Y1;refine Wq Qz.atX1 ?_;refine Wa ?_;apply Y0;apply AWp.seq;apply Y1;refine Wm ?_;refine Wq Qz.cmpF ?_;refine Wm ?_;refine Wg Qz.move ?_;refine Wg Qz.cmpF ?_;refine Wq Qz.pickF ?_;refine Wm ?_;refine Wg Qz.move ?_;(refine AWs.qG rfl rfl rfl rfl rfl ?_;refine ⟨_,Qs.ixPL (i:=f k) (ao rfl) (ao rfl) (tab_of rfl) (tab_of rfl) (by omega) (by omega),?_⟩);(refine AWs.qG rfl rfl rfl rfl rfl ?_;refine ⟨_,Qs.ldX1 (ao rfl) rfl (tab_of rfl) rfl (CellAt.b8e (by omega) hno),?_⟩);refine Wq Qz.pickF ?_;apply Y0;refine Cf ?_;apply Ys;apply AWp.region;refine Wm ?_;(refine AWs.q rfl rfl ?_;refine ⟨_,Qs.ixPL (i:=f k) (ao rfl) (ao rfl) (tab_of rfl) (tab_of rfl) (by omega) (by omega),?_⟩);refine AWs.stX1 (ao rfl) (ao rfl) rfl (tab_of rfl) (One.ex_ rfl) (SetAt.b8 (by omega)) rfl ?_;apply AWl.nil;apply ABlock.normal;apply Yn;apply AWp.region;refine Wq Qz.succ ?_;refine Wm ?_;apply AWl.nil
   refine ALoop.next (z - (k+1)) (by omega) ⟨k+1,by omega,rfl,rfl⟩ ?_
   exact AS.le_of (by refine Yd ?_;refine Yp ?_;refine Yp ?_;refine Yd ?_;refine Yd ?_;exact FrLe.nil) (by apply Yv;refine HpLe.cons (OwLe.varD (by rw [hset])) ?_;exact HpLe.nil)
  ·obtain rfl : k = z := by omega
   rcases pmAt_bad hbad with h | h | ⟨h1,h2,j,hj,he⟩
   ·apply Y1;refine Wq Qz.cmpT ?_;apply Y0;apply AWp.seq;refine Ct ?_;apply Ys;apply AWp.seq;apply AWp.block;apply Y1;refine Wq Qz.atX1 ?_;refine Wa ?_;apply Y0;apply AWp.seq;apply Y1;refine Wm ?_;refine Wq Qz.cmpT ?_;refine Wm ?_;refine Ws ?_;refine Ws ?_;refine Wq Qz.pickT ?_;refine Wm ?_;refine Ws ?_;refine Ws ?_;refine Ws ?_;refine Wq Qz.pickT ?_;apply Y0;refine Ct ?_;apply Y1;refine Wa ?_;refine Wa ?_;apply Y0;apply AWp.ret;apply AThen.ret;apply ABlock.ret;apply AThen.ret;apply ALoop.ret;apply ABlock.ret;apply AThen.ret
    exact Fin.ret (Rets.of2 (ResV.tmp rfl rfl) (ResV.tmp rfl rfl) (D.le.tup2 (D.le_nilP) (D.le.refl _)))
   ·apply Y1;refine Wq Qz.cmpT ?_;apply Y0;apply AWp.seq;refine Ct ?_;apply Ys;apply AWp.seq;apply AWp.block;apply Y1;refine Wq Qz.atX1 ?_;refine Wa ?_;apply Y0;apply AWp.seq;apply Y1;refine Wm ?_;refine Wq Qz.cmpF ?_;refine Wm ?_;refine Wg Qz.move ?_;refine Wg Qz.cmpT ?_;refine Wq Qz.pickF ?_;refine Wm ?_;refine Ws ?_;refine Ws ?_;refine Ws ?_;refine Wq Qz.pickT ?_;apply Y0;refine Ct ?_;apply Y1;refine Wa ?_;refine Wa ?_;apply Y0;apply AWp.ret;apply AThen.ret;apply ABlock.ret;apply AThen.ret;apply ALoop.ret;apply ABlock.ret;apply AThen.ret
    exact Fin.ret (Rets.of2 (ResV.tmp rfl rfl) (ResV.tmp rfl rfl) (D.le.tup2 (D.le_nilP) (D.le.refl _)))
   ·have hyes:=seenF_yes hj he
    apply Y1;refine Wq Qz.cmpT ?_;apply Y0;apply AWp.seq;refine Ct ?_;apply Ys;apply AWp.seq;apply AWp.block;apply Y1;refine Wq Qz.atX1 ?_;refine Wa ?_;apply Y0;apply AWp.seq;apply Y1;refine Wm ?_;refine Wq Qz.cmpF ?_;refine Wm ?_;refine Wg Qz.move ?_;refine Wg Qz.cmpF ?_;refine Wq Qz.pickF ?_;refine Wm ?_;refine Wg Qz.move ?_;(refine AWs.qG rfl rfl rfl rfl rfl ?_;refine ⟨_,Qs.ixPL (i:=f k) (ao rfl) (ao rfl) (tab_of rfl) (tab_of rfl) (by omega) (by omega),?_⟩);(refine AWs.qG rfl rfl rfl rfl rfl ?_;refine ⟨_,Qs.ldX1 (ao rfl) rfl (tab_of rfl) rfl (CellAt.b8e (by omega) hyes),?_⟩);refine Wq Qz.pickF ?_;apply Y0;refine Ct ?_;apply Y1;refine Wa ?_;refine Wa ?_;apply Y0;apply AWp.ret;apply AThen.ret;apply ABlock.ret;apply AThen.ret;apply ALoop.ret;apply ABlock.ret;apply AThen.ret
    exact Fin.ret (Rets.of2 (ResV.tmp rfl rfl) (ResV.tmp rfl rfl) (D.le.tup2 (D.le_nilP) (D.le.refl _)))
theorem RisT_abs (f : Nat→Int) (hf:PmOk f):Abs Tryz.prog 117 [agD (monC f)] (ex (.bool true)):=by
 refine Ab Tryz.func117 fun s0=>?_
 rw [Tryz.ntmps117]
 apply Y1;refine AWs.bx (ao rfl) rfl rfl rfl rfl ?_;refine Wa ?_;apply Y0;apply Y1;(refine AWs.q rfl rfl ?_;(refine Bq.arr (tab_of rfl) (tab_of rfl) rfl rfl ?_;(repeat ((first | refine ⟨_,PartOk.ag (ao rfl),?_⟩ | refine ⟨_,PartOk.one rfl (by first | exact One.ex_ rfl | exact One.sl | exact One.ep),?_⟩);refine ⟨_,rfl,?_⟩));refine ⟨_,rfl,?_⟩));refine AWs.al (tab_of rfl) rfl rfl rfl rfl rfl rfl ?_;refine Sf ?_;apply Y0;apply AWp.seq;apply Y1;refine Wa ?_;apply Y0;apply AWp.block
 refine AWp.loop (fun mz σ=>∃ k,k≤8∧mz = 8 - k∧σ = ⟨[(1,.ptr 0 0),(3,.ptr 1 0),(4,.d (ex (.int .i64 (k:Nat))))],[.var 30 ((monC f).map .d),.var 126 ((bool8 (seenF f k)).map .d)]⟩) ?le ⟨0,by omega,rfl,rfl⟩ ?round
 case le=>exact AS.le_of (by refine Yp ?_;refine Yp ?_;refine Yd ?_;exact FrLe.nil) (by apply Yv;apply Yv;exact HpLe.nil)
 case round =>
  rintro mz _ ⟨k,hk,rfl,rfl⟩
  by_cases hlt:k<8
  ·obtain ⟨h1,h2,h3⟩:=hf k hlt
   have hno:=seenF_no (fun i hi=>hf i (by omega)) (hf k hlt)
   have hset:=seenF_set f k
   apply AWp.seq;apply Y1;refine Wm ?_;refine Wq Qz.cmpT ?_;apply Y0;refine Ct ?_;apply Ys;apply AWp.seq;apply AWp.block;apply AWp.seq;apply Y1;refine Wm ?_;refine Wq Qz.ixP ?_;refine Wq Qz.ldX1 ?_;refine Wq Qz.cmpF ?_;refine Wm ?_;refine Wg Qz.move ?_;refine Wg Qz.ixP ?_;refine Wg Qz.ldX1 ?_;refine Wg Qz.cmpF ?_;refine Wq Qz.pickF ?_;refine Wm ?_;refine Wg Qz.move ?_;refine Wg Qz.ixP ?_;refine Wg Qz.ldX1 ?_;(refine AWs.qG rfl rfl rfl rfl rfl ?_;refine ⟨_,Qs.ixPL (i:=f k) (ao rfl) (ao rfl) (tab_of rfl) (tab_of rfl) (by omega) (by omega),?_⟩);(refine AWs.qG rfl rfl rfl rfl rfl ?_;refine ⟨_,Qs.ldX1 (ao rfl) rfl (tab_of rfl) rfl (CellAt.b8e (by omega) hno),?_⟩);refine Wq Qz.pickF ?_;apply Y0;refine Cf ?_;apply Ys;apply AWp.region;refine Wm ?_;refine Wq Qz.ixP ?_;refine Wq Qz.ldX1 ?_;(refine AWs.q rfl rfl ?_;refine ⟨_,Qs.ixPL (i:=f k) (ao rfl) (ao rfl) (tab_of rfl) (tab_of rfl) (by omega) (by omega),?_⟩);refine AWs.stX1 (ao rfl) (ao rfl) rfl (tab_of rfl) (One.ex_ rfl) (SetAt.b8 (by omega)) rfl ?_;apply AWl.nil;apply ABlock.normal;apply Yn;apply AWp.region;refine Wm ?_;refine Wq Qz.succ ?_;refine Wa ?_;apply AWl.nil
   refine ALoop.next (8 - (k+1)) (by omega) ⟨k+1,by omega,rfl,rfl⟩ ?_
   exact AS.le_of (by refine Yp ?_;refine Yp ?_;refine Yd ?_;exact FrLe.nil) (by apply Yv;refine HpLe.cons (OwLe.varD (by rw [hset])) ?_;exact HpLe.nil)
  ·obtain rfl : k = 8 := by omega
   apply AWp.seq;apply Y1;refine Wm ?_;refine Wq Qz.cmpF ?_;apply Y0;refine Cf ?_;apply AWp.exit;apply AThen.exit;apply ALoop.exit;apply ABlock.hit;apply Yn;apply Y1;refine Wa ?_;apply Y0;apply AWp.ret
   exact Yf
theorem RisF_abs (f : Nat→Int) (hf:¬ PmOk f):Abs Tryz.prog 117 [agD (monC f)] (ex (.bool false)):=by
 obtain ⟨z,hz,hbef,hbad⟩:=(pmOk_or f).resolve_left hf
 refine Ab Tryz.func117 fun s0=>?_
 rw [Tryz.ntmps117]
 apply Y1;refine AWs.bx (ao rfl) rfl rfl rfl rfl ?_;refine Wa ?_;apply Y0;apply Y1;(refine AWs.q rfl rfl ?_;(refine Bq.arr (tab_of rfl) (tab_of rfl) rfl rfl ?_;(repeat ((first | refine ⟨_,PartOk.ag (ao rfl),?_⟩ | refine ⟨_,PartOk.one rfl (by first | exact One.ex_ rfl | exact One.sl | exact One.ep),?_⟩);refine ⟨_,rfl,?_⟩));refine ⟨_,rfl,?_⟩));refine AWs.al (tab_of rfl) rfl rfl rfl rfl rfl rfl ?_;refine Sf ?_;apply Y0;apply AWp.seq;apply Y1;refine Wa ?_;apply Y0;apply AWp.block
 refine AWp.loop (fun mz σ=>∃ k,k≤z∧mz = z - k∧σ = ⟨[(1,.ptr 0 0),(3,.ptr 1 0),(4,.d (ex (.int .i64 (k:Nat))))],[.var 30 ((monC f).map .d),.var 126 ((bool8 (seenF f k)).map .d)]⟩) ?le ⟨0,by omega,rfl,rfl⟩ ?round
 case le=>exact AS.le_of (by refine Yp ?_;refine Yp ?_;refine Yd ?_;exact FrLe.nil) (by apply Yv;apply Yv;exact HpLe.nil)
 case round =>
  rintro mz _ ⟨k,hk,rfl,rfl⟩
  by_cases hlt:k<z
  ·obtain ⟨h1,h2,h3⟩:=hbef k hlt
   have hno:=seenF_no (fun i hi=>hbef i (by omega)) (hbef k hlt)
   have hset:=seenF_set f k
   apply AWp.seq;apply Y1;refine Wm ?_;refine Wq Qz.cmpT ?_;apply Y0;refine Ct ?_;apply Ys;apply AWp.seq;apply AWp.block;apply AWp.seq;apply Y1;refine Wm ?_;refine Wq Qz.ixP ?_;refine Wq Qz.ldX1 ?_;refine Wq Qz.cmpF ?_;refine Wm ?_;refine Wg Qz.move ?_;refine Wg Qz.ixP ?_;refine Wg Qz.ldX1 ?_;refine Wg Qz.cmpF ?_;refine Wq Qz.pickF ?_;refine Wm ?_;refine Wg Qz.move ?_;refine Wg Qz.ixP ?_;refine Wg Qz.ldX1 ?_;(refine AWs.qG rfl rfl rfl rfl rfl ?_;refine ⟨_,Qs.ixPL (i:=f k) (ao rfl) (ao rfl) (tab_of rfl) (tab_of rfl) (by omega) (by omega),?_⟩);(refine AWs.qG rfl rfl rfl rfl rfl ?_;refine ⟨_,Qs.ldX1 (ao rfl) rfl (tab_of rfl) rfl (CellAt.b8e (by omega) hno),?_⟩);refine Wq Qz.pickF ?_;apply Y0;refine Cf ?_;apply Ys;apply AWp.region;refine Wm ?_;refine Wq Qz.ixP ?_;refine Wq Qz.ldX1 ?_;(refine AWs.q rfl rfl ?_;refine ⟨_,Qs.ixPL (i:=f k) (ao rfl) (ao rfl) (tab_of rfl) (tab_of rfl) (by omega) (by omega),?_⟩);refine AWs.stX1 (ao rfl) (ao rfl) rfl (tab_of rfl) (One.ex_ rfl) (SetAt.b8 (by omega)) rfl ?_;apply AWl.nil;apply ABlock.normal;apply Yn;apply AWp.region;refine Wm ?_;refine Wq Qz.succ ?_;refine Wa ?_;apply AWl.nil
   refine ALoop.next (z - (k+1)) (by omega) ⟨k+1,by omega,rfl,rfl⟩ ?_
   exact AS.le_of (by refine Yp ?_;refine Yp ?_;refine Yd ?_;exact FrLe.nil) (by apply Yv;refine HpLe.cons (OwLe.varD (by rw [hset])) ?_;exact HpLe.nil)
  ·obtain rfl : k = z := by omega
   rcases pmAt_bad hbad with h | h | ⟨h1,h2,j,hj,he⟩
   ·apply AWp.seq;apply Y1;refine Wm ?_;refine Wq Qz.cmpT ?_;apply Y0;refine Ct ?_;apply Ys;apply AWp.seq;apply AWp.block;apply AWp.seq;apply Y1;refine Wm ?_;refine Wq Qz.ixP ?_;refine Wq Qz.ldX1 ?_;refine Wq Qz.cmpT ?_;refine Wm ?_;refine Ws ?_;refine Ws ?_;refine Ws ?_;refine Ws ?_;refine Wq Qz.pickT ?_;refine Wm ?_;refine Ws ?_;refine Ws ?_;refine Ws ?_;refine Ws ?_;refine Ws ?_;refine Wq Qz.pickT ?_;apply Y0;refine Ct ?_;apply Y1;refine Wa ?_;apply Y0;apply AWp.ret;apply AThen.ret;apply ABlock.ret;apply AThen.ret;apply ALoop.ret;apply ABlock.ret;apply AThen.ret
    exact Yf
   ·apply AWp.seq;apply Y1;refine Wm ?_;refine Wq Qz.cmpT ?_;apply Y0;refine Ct ?_;apply Ys;apply AWp.seq;apply AWp.block;apply AWp.seq;apply Y1;refine Wm ?_;refine Wq Qz.ixP ?_;refine Wq Qz.ldX1 ?_;refine Wq Qz.cmpF ?_;refine Wm ?_;refine Wg Qz.move ?_;refine Wg Qz.ixP ?_;refine Wg Qz.ldX1 ?_;refine Wg Qz.cmpT ?_;refine Wq Qz.pickF ?_;refine Wm ?_;refine Ws ?_;refine Ws ?_;refine Ws ?_;refine Ws ?_;refine Ws ?_;refine Wq Qz.pickT ?_;apply Y0;refine Ct ?_;apply Y1;refine Wa ?_;apply Y0;apply AWp.ret;apply AThen.ret;apply ABlock.ret;apply AThen.ret;apply ALoop.ret;apply ABlock.ret;apply AThen.ret
    exact Yf
   ·have hyes:=seenF_yes hj he
    apply AWp.seq;apply Y1;refine Wm ?_;refine Wq Qz.cmpT ?_;apply Y0;refine Ct ?_;apply Ys;apply AWp.seq;apply AWp.block;apply AWp.seq;apply Y1;refine Wm ?_;refine Wq Qz.ixP ?_;refine Wq Qz.ldX1 ?_;refine Wq Qz.cmpF ?_;refine Wm ?_;refine Wg Qz.move ?_;refine Wg Qz.ixP ?_;refine Wg Qz.ldX1 ?_;refine Wg Qz.cmpF ?_;refine Wq Qz.pickF ?_;refine Wm ?_;refine Wg Qz.move ?_;refine Wg Qz.ixP ?_;refine Wg Qz.ldX1 ?_;(refine AWs.qG rfl rfl rfl rfl rfl ?_;refine ⟨_,Qs.ixPL (i:=f k) (ao rfl) (ao rfl) (tab_of rfl) (tab_of rfl) (by omega) (by omega),?_⟩);(refine AWs.qG rfl rfl rfl rfl rfl ?_;refine ⟨_,Qs.ldX1 (ao rfl) rfl (tab_of rfl) rfl (CellAt.b8e (by omega) hyes),?_⟩);refine Wq Qz.pickF ?_;apply Y0;refine Ct ?_;apply Y1;refine Wa ?_;apply Y0;apply AWp.ret;apply AThen.ret;apply ABlock.ret;apply AThen.ret;apply ALoop.ret;apply ABlock.ret;apply AThen.ret
    exact Yf
theorem RPermF_abs (P : List Tm) (f:Nat→Int) (hf:¬ PmOk f):Abs Tryz.prog 51 [polD P,agD (monC f)] (tupD [polD [],ex (.int .i64 1)]):=by
 refine Ab Tryz.func51 fun s0=>?_
 rw [Tryz.ntmps51]
 apply Y1;refine AWs.bx (ao rfl) rfl rfl rfl rfl ?_;refine Wa ?_;refine Wa ?_;apply Y0;apply AWp.seq;apply Y1;refine Wq Qz.ldD ?_;refine Wq (Qz.call (RisF_abs f hf)) ?_;refine Wq Qz.not ?_;apply Y0;refine Ct ?_;apply Y1;refine Wa ?_;refine Wa ?_;apply Y0;apply AWp.ret;apply AThen.ret
 exact Fin.ret (Rets.of2 (ResV.tmp rfl rfl) (ResV.tmp rfl rfl) (D.le.tup2 (D.le_nilP) (D.le.refl _)))
theorem RPermT_abs (P : List Tm) (f:Nat→Int) (hf:PmOk f) {n N:Nat} {d:Int} (hP:PB P n N d) (h0:0≤d) (hn:n≤1000) (hN:N≤1000000):Abs Tryz.prog 51 [polD P,agD (monC f)] (tupD [polD (rmovF f P),ex (.int .i64 0)]):=by
 have hPl:=hP.len
 refine Ab Tryz.func51 fun s0=>?_
 rw [Tryz.ntmps51]
 apply Y1;refine AWs.bx (ao rfl) rfl rfl rfl rfl ?_;refine Wa ?_;refine Wa ?_;apply Y0;apply AWp.seq;apply Y1;refine Wq Qz.ldD ?_;refine Wq (Qz.call (RisT_abs f hf)) ?_;refine Wq Qz.not ?_;apply Y0;refine Cf ?_;apply Ys;apply Y1;refine AWs.b0 (tab_of rfl) (tab_of rfl) rfl rfl rfl rfl rfl ?_;refine Wa ?_;apply Y0;apply AWp.seq;apply Y1;refine Wa ?_;apply Y0;apply AWp.block
 refine AWp.loop (fun mz σ=>∃ k,k≤P.length∧mz = P.length - k∧σ = ⟨[(0,.d (polD P)),(3,.ptr 0 0),(6,.d (polD (rmovF f (P.take k)))),(7,.d (ex (.int .i64 (k:Nat))))],[.var 30 ((monC f).map .d)]⟩) ?le ⟨0,by omega,rfl,rfl⟩ ?round
 case le=>exact AS.le_of (by refine Yd ?_;refine Yp ?_;refine FrLe.cons rfl (AVle.ownD rfl (D.le.refl _)) ?_;refine Yd ?_;exact FrLe.nil) (by apply Yv;exact HpLe.nil)
 case round =>
  rintro mz _ ⟨k,hk,rfl,rfl⟩
  by_cases hlt:k<P.length
  ·have htk:=rmov_take (f:=f) hlt
   have hb:=rmov_pb (f:=f) hP h0 k (by omega)
   have h1:=mov1_pb (f:=f) hP h0 (tAt_mem hlt)
   have hkN:k*(N+1)≤1000*1000001:=Nat.mul_le_mul (by omega) (by omega)
   apply AWp.seq;apply Y1;refine Wm ?_;refine Wm ?_;refine Wq Qz.lenN ?_;refine Wq Qz.cmpT ?_;apply Y0;refine Ct ?_;apply Ys;apply AWp.seq;apply AWp.block;apply Y1;(refine AWs.q rfl rfl ?_;(refine Bq.arr (tab_of rfl) (tab_of rfl) rfl rfl ?_;(repeat ((first | refine ⟨_,PartOk.ag (ao rfl),?_⟩ | refine ⟨_,PartOk.one rfl (by first | exact One.ex_ rfl | exact One.sl | exact One.ep),?_⟩);refine ⟨_,rfl,?_⟩));refine ⟨_,rfl,?_⟩));refine AWs.al (tab_of rfl) rfl rfl rfl rfl rfl rfl ?_;refine Sf ?_;apply Y0;apply AWp.seq;apply Y1;refine Wa ?_;apply Y0;apply AWp.block
   refine AWp.loop (fun mz σ=>∃ i,i≤8∧mz = 8 - i∧σ = ⟨[(0,.d (polD P)),(3,.ptr 0 0),(6,.d (polD (rmovF f (P.take k)))),(7,.d (ex (.int .i64 (k:Nat)))),(8,.ptr 1 0),(9,.d (ex (.int .i64 (i:Nat))))],[.var 30 ((monC f).map .d),.var 31 ((monC (movS f (tAt P k).m i)).map .d)]⟩) ?lei ⟨0,by omega,rfl,rfl⟩ ?roundi
   case lei=>exact AS.le_of (by refine Yd ?_;refine Yp ?_;refine Yd ?_;refine Yd ?_;refine Yp ?_;refine Yd ?_;exact FrLe.nil) (by apply Yv;apply Yv;exact HpLe.nil)
   case roundi =>
    rintro mz _ ⟨i,hi,rfl,rfl⟩
    by_cases hlti:i<8
    ·obtain ⟨h1,h2,h3⟩:=hf i hlti
     apply AWp.seq;apply Y1;refine Wm ?_;refine Wq Qz.cmpT ?_;apply Y0;refine Ct ?_;apply Ys;apply AWp.seq;apply AWp.block
     refine AWp.dr' (DrawOk.self (by kernel_rfl)) [[],[(25,0)],[(26,1)],[],[],[],[(28,3),(29,4)],[(31,6)],[(32,7),(30,5)],[(33,8)],[(27,2)]] [[],[0],[0,1],[],[],[],[3,4],[3,4,6],[3,4,5,6,7],[3,4,5,6,7,8],[0,1,2,3,4,5,6,7,8,9]] rfl (by kernel_rfl) (by kernel_rfl) (by kernel_rfl) ?_
     refine Xq Qz.move ?_;refine Xq Qz.ixP ?_;refine Xq Qz.ldX1 ?_;refine Xq Qz.move ?_;refine Xq Qz.move ?_;refine Xq Qz.move ?_;refine Xq Qz.indexN ?_;refine Xq Qz.fldE ?_;refine Xq Qz.ixE ?_;refine Xq Qz.ldEX1 ?_;refine ⟨_,HStep.q rfl (Qs.ixPL (i:=f i) (ah rfl) (ah rfl) (tab_of rfl) (tab_of rfl) (by omega) (by omega)),?_⟩;refine ⟨_,rfl,?_⟩;refine ⟨_,rfl,?_⟩
     refine AWs.stX1 (ao rfl) (ao rfl) rfl (tab_of rfl) (One.ex_ rfl) (SetAt.mon (by omega)) rfl ?_;apply AWl.nil;apply ABlock.normal;apply Yn;apply AWp.region;refine Wm ?_;refine Wq Qz.succ ?_;refine Wa ?_;apply AWl.nil
     refine ALoop.next (8 - (i+1)) (by omega) ⟨i+1,by omega,rfl,rfl⟩ ?_
     exact AS.le_of (by refine Yd ?_;refine Yp ?_;refine Yd ?_;refine Yd ?_;refine Yp ?_;refine Yd ?_;exact FrLe.nil) (by apply Yv;apply Yv;exact HpLe.nil)
    ·obtain rfl : i = 8 := by omega
     apply AWp.seq;apply Y1;refine Wm ?_;refine Wq Qz.cmpF ?_;apply Y0;refine Cf ?_;apply AWp.exit;apply AThen.exit;apply ALoop.exit;apply ABlock.hit;apply Yn
     refine AWp.dr' (DrawOk.self (by kernel_rfl)) [[],[],[],[(37,1),(38,2)],[(39,3)],[(40,4)],[],[(41,5),(42,6)],[(43,7)],[(36,0),(44,8)]] [[],[],[],[1,2],[1,2,3],[1,2,3,4],[],[1,2,3,4,5,6],[1,2,3,4,5,6,7],[0,1,2,3,4,5,6,7,8]] rfl (by kernel_rfl) (by kernel_rfl) (by kernel_rfl) ?_
     refine Xq Qz.move ?_;refine Xq Qz.move ?_;refine Xq Qz.move ?_;refine Xq Qz.indexN ?_;refine Xq Qz.fldE ?_;refine Xq Qz.ldE ?_;refine Xq Qz.ldD ?_;(refine Hq rfl ?_;refine Bq.build (tab_of rfl) rfl rfl rfl ?_;(repeat ((first | refine ⟨_,PartOk.ag (ah rfl),?_⟩ | refine ⟨_,PartOk.one rfl (by first | exact One.ex_ rfl | exact One.sl | exact One.ep),?_⟩);refine ⟨_,rfl,?_⟩));refine ⟨_,rfl,?_⟩;refine ⟨_,rfl,?_⟩);(refine ⟨_,HStep.q rfl (Bq.slice1 (ah rfl) (tab_of rfl) (tab_of rfl) rfl rfl rfl rfl rfl),?_⟩;refine ⟨_,rfl,?_⟩);refine Xq (Qz.call (RAdd_pb hb h1 (by omega) (by omega))) ?_;refine ⟨_,rfl,?_⟩
     refine Wa ?_;apply AWl.nil;apply ABlock.normal;apply Yn;apply AWp.region;refine Wm ?_;refine Wq Qz.succ ?_;refine Wa ?_;apply AWl.nil
     refine ALoop.next (P.length - (k+1)) (by omega) ⟨k+1,by omega,rfl,rfl⟩ ?_
     exact AS.le_of (by refine Yd ?_;refine Yp ?_;refine FrLe.cons rfl (AVle.le (D.le_pol htk.symm)) ?_;refine Yd ?_;exact FrLe.nil) (by apply Yv;exact HpLe.nil)
  ·obtain rfl : k = P.length := by omega
   apply AWp.seq;apply Y1;refine Wm ?_;refine Wm ?_;refine Wq Qz.lenN ?_;refine Wq Qz.cmpF ?_;apply Y0;refine Cf ?_;apply AWp.exit;apply AThen.exit;apply ALoop.exit;apply ABlock.hit;apply Yn;apply Y1;refine Wm ?_;refine Wa ?_;refine Wa ?_;apply Y0;apply AWp.ret
   exact Fin.ret (Rets.of2 (ResV.tmp rfl rfl) (ResV.tmp rfl rfl) (D.le.tup2 (D.le_pol (by rw [List.take_length])) (D.le.refl _)))
theorem RPerm_abs (z : Nat) (hz:z≤255):Abs Tryz.prog 48 [ex (.int .u8 (z:Nat)),ex (.int .i64 4)] (agD (monC (prmF z 4).2)):=by
 refine Ab Tryz.func48 fun s0=>?_
 rw [Tryz.ntmps48]
 apply Y1;refine AWs.al (tab_of rfl) rfl rfl rfl rfl rfl rfl ?_;apply Y0;apply Y1;(refine AWs.q rfl rfl ?_;(refine Bq.arr (tab_of rfl) (tab_of rfl) rfl rfl ?_;(repeat ((first | refine ⟨_,PartOk.ag (ao rfl),?_⟩ | refine ⟨_,PartOk.one rfl (by first | exact One.ex_ rfl | exact One.sl | exact One.ep),?_⟩);refine ⟨_,rfl,?_⟩));refine ⟨_,rfl,?_⟩));refine AWs.al (tab_of rfl) rfl rfl rfl rfl rfl rfl ?_;refine Sf ?_;apply Y0;apply Y1;refine Wm ?_;refine Wq Qz.conv64 ?_;refine Wa ?_;apply Y0;apply AWp.seq;apply Y1;refine Wa ?_;apply Y0;apply AWp.block
 refine AWp.loop (fun mz σ=>∃ k,k≤4∧mz = 4 - k∧σ = ⟨[(1,.d (ex (.int .i64 4))),(4,.ptr 0 0),(5,.ptr 1 0),(6,.d (ex (.int .i64 ((prmF z k).1:Nat)))),(7,.d (ex (.int .i64 (k:Nat))))],[.var 30 ((monC fun _=>0).map .d),.var 30 ((monC (prmF z k).2).map .d)]⟩) ?le ⟨0,by omega,rfl,rfl⟩ ?round
 case le=>exact AS.le_of (by refine Yd ?_;refine Yp ?_;refine Yp ?_;refine Yd ?_;refine Yd ?_;exact FrLe.nil) (by apply Yv;apply Yv;exact HpLe.nil)
 case round =>
  rintro mz _ ⟨k,hk,rfl,rfl⟩
  by_cases hlt:k<4
  ·have hl:=prmF_left z k
   have hm:=Nat.mod_lt (prmF z k).1 (show 0<4 - k by omega)
   have h4:(4:Int) - (k:Nat) = ((4 - k:Nat):Int):=by omega
   have hr:(((prmF z k).1:Nat):Int) % ((4:Int) - (k:Nat)) = (((prmF z k).1 % (4 - k):Nat):Int):=by rw [h4];exact (Int.natCast_emod _ _).symm
   have hd:(((prmF z k).1:Nat):Int) / ((4:Int) - (k:Nat)) = (((prmF z k).1 / (4 - k):Nat):Int):=by rw [h4];exact (Int.natCast_ediv _ _).symm
   have hj:(((k:Nat):Int)+(((prmF z k).1:Nat):Int) % ((4:Int) - (k:Nat))).toNat = k+(prmF z k).1 % (4 - k):=by rw [hr];omega
   have hst:prmF z (k+1) = ((prmF z k).1 / (4 - k),swpM (prmF z k).2 k (k+(prmF z k).1 % (4 - k))):=rfl
   apply AWp.seq;apply Y1;refine Wm ?_;refine Wm ?_;refine Wq Qz.cmpT ?_;refine Wm ?_;refine Wg Qz.move ?_;refine Wg Qz.cmpT ?_;refine Wq Qz.pickT ?_;apply Y0;refine Ct ?_;apply Ys;apply AWp.seq;apply AWp.block;apply Y1;refine Wm ?_;refine Wm ?_;refine Wm ?_;refine Wm ?_;refine Wq Qz.sub ?_;refine Wq Qz.rem ?_;refine Wq Qz.add ?_;refine Wa ?_;apply Y0;apply Y1;refine Wm ?_;refine Wm ?_;refine Wm ?_;refine Wq Qz.sub ?_;refine Wq Qz.quo ?_;refine Wa ?_;apply Y0;apply Y1;refine Wm ?_;refine Wq Qz.ixP ?_;refine Wq Qz.ldX1 ?_;refine Wa ?_;apply Y0;apply Y1;refine Wm ?_;refine Wm ?_;(refine AWs.q rfl rfl ?_;refine ⟨_,Qs.ixPL (i:=((k:Nat):Int)+(((prmF z k).1:Nat):Int) % ((4:Int) - (k:Nat))) (ao rfl) (ao rfl) (tab_of rfl) (tab_of rfl) (by omega) (by omega),?_⟩);refine Wq Qz.ldX1 ?_;refine Wq Qz.ixP ?_;(refine AWs.stX1 (ao rfl) (ao rfl) rfl (tab_of rfl) (by first | exact One.ex_ rfl | exact One.sl | exact One.ep) (SetAt.mon (by first | omega | (simp;omega))) rfl ?_);apply Y0;apply AWp.region;refine Wm ?_;refine Wm ?_;(refine AWs.q rfl rfl ?_;refine ⟨_,Qs.ixPL (i:=((k:Nat):Int)+(((prmF z k).1:Nat):Int) % ((4:Int) - (k:Nat))) (ao rfl) (ao rfl) (tab_of rfl) (tab_of rfl) (by omega) (by omega),?_⟩);(refine AWs.stX1 (ao rfl) (ao rfl) rfl (tab_of rfl) (by first | exact One.ex_ rfl | exact One.sl | exact One.ep) (SetAt.mon (by first | omega | (simp;omega))) rfl ?_);apply AWl.nil;apply ABlock.normal;apply Yn;apply AWp.region;refine Wm ?_;refine Wq Qz.succ ?_;refine Wa ?_;apply AWl.nil
   refine ALoop.next (4 - (k+1)) (by omega) ⟨k+1,by omega,rfl,rfl⟩ ?_
   exact AS.le_of (by refine Yd ?_;refine Yp ?_;refine Yp ?_;refine FrLe.cons rfl (AVle.int (by rw [hd,hst])) ?_;refine Yd ?_;exact FrLe.nil) (by apply Yv;(refine HpLe.cons (OwLe.varD (by rw [hj,hst];rfl)) ?_);exact HpLe.nil)
  ·obtain rfl : k = 4 := by omega
   apply AWp.seq;apply Y1;refine Wm ?_;refine Wm ?_;refine Wq Qz.cmpF ?_;refine Wm ?_;refine Ws ?_;refine Ws ?_;refine Wq Qz.pickF ?_;apply Y0;refine Cf ?_;apply AWp.exit;apply AThen.exit;apply ALoop.exit;apply ABlock.hit;apply Yn;apply Y1;refine Wq Qz.ldD ?_;refine Sf ?_;apply Y0;apply AWp.ret
   exact Fin.ret (Rets.of1 (ResV.cell rfl rfl (tab_of rfl) rfl rfl rfl) (D.le.refl _))
theorem sN_add {a b:Nat→Int} (ha:∀ i,i<8→0≤a i) (hb:∀ i,i<8→0≤b i):∀ i,i≤8→sN (add8 a b) i = sN a i+sN b i
 | 0,_=>rfl
 | i+1,hi=>by
  have h1:=ha i (by omega)
  have h2:=hb i (by omega)
  have h3:=sN_add ha hb i (by omega)
  have e:(add8 a b i).toNat = (a i).toNat+(b i).toNat:=by simp only [add8];omega
  simp only [sN,h3,e]
  omega
theorem sN_eqv {a b:Nat→Int} (h:Eqv a b):∀ i,i≤8→sN a i = sN b i
 | 0,_=>rfl
 | i+1,hi=>by simp only [sN];rw [sN_eqv h i (by omega),h i (by omega)]
def DegN (P : List Tm) (D:Nat):Prop:=∀ t∈P,sN t.m 8≤D
theorem DegN.nil {D : Nat}:DegN [] D:=fun t ht=>by cases ht
theorem DegN.add {P Q:List Tm} {D:Nat} (h:DegN P D) (k:DegN Q D):DegN (mrg P Q) D:=fun u hu=>by
 rcases mrg_mem P Q u hu with ⟨s,hs,e⟩ | ⟨s,hs,e⟩
 ·rw [← e];exact h s hs
 ·rw [← e];exact k s hs
theorem sum_lft (deg : Int) (h0:0≤deg) (r:Nat→Int) (n:Nat):∀ k,(sN (expE deg r n) k:Int)+lft deg r (min k n) = deg
 | 0=>by simp [sN,lft]
 | k+1=>by
  have ih:=sum_lft deg h0 r n k
  have hl:=lft_in r h0 k
  by_cases hk:k<n
  ·rw [show min k n = k by omega] at ih
   rw [show min (k+1) n = k+1 by omega]
   have h1:=Int.emod_nonneg ((r (k+1)).natAbs:Int) (show lft deg r k+1 ≠ 0 by omega)
   have h2:=Int.emod_lt_of_pos ((r (k+1)).natAbs:Int) (show 0<lft deg r k+1 by omega)
   have e:expE deg r n k = ((r (k+1)).natAbs:Nat) % (lft deg r k+1):=by unfold expE;rw [if_pos hk]
   simp only [sN,lft,e]
   omega
  ·have e : expE deg r n k = 0 := by unfold expE; rw [if_neg hk]
   rw [show min k n = n by omega] at ih
   rw [show min (k+1) n = n by omega]
   simp only [sN,e]
   omega
theorem expE_deg {deg : Int} (h0:0≤deg) (r:Nat→Int) (n:Nat):sN (expE deg r n) 8≤deg.toNat:=by
 have h1:=sum_lft deg h0 r n 8
 have h2:=lft_in r h0 (min 8 n)
 omega
theorem madeP_deg (X : List (Nat→Int)) (n:Nat) {deg:Int} (terms:Nat) (h0:0≤deg):DegN (madeP X n deg terms) deg.toNat:=by
 have key:∀ (X:List (Nat→Int)) (A:List Tm),DegN A deg.toNat→DegN (X.foldl (fun a r=>mrg a (rawT deg (min n 4) r)) A) deg.toNat:=by
  intro X
  induction X with
  | nil=>intro A h;exact h
  | cons r X ih =>
   intro A hA
   refine ih _ (hA.add fun t ht=>?_)
   unfold rawT sclL at ht
   split at ht
   ·cases ht
   ·obtain ⟨s,hs,rfl⟩:=List.mem_map.1 ht
    rw [List.mem_singleton.1 hs]
    have e:sN (add8 (fun _=>0) (expE deg r (min n 4))) 8 = sN (expE deg r (min n 4)) 8:=sN_eqv (fun i _=>by simp [add8]) 8 (by omega)
    show sN (add8 (fun _=>0) (expE deg r (min n 4))) 8≤deg.toNat
    rw [e]
    exact expE_deg h0 r (min n 4)
 exact key _ [] DegN.nil
theorem degL_le {P : List Tm} {D:Nat} (h:DegN P D) (h0:∀ t∈P,∀ i,i<8→0≤t.m i):degL P≤(D:Nat):=by
 have key:∀ (P:List Tm) (z:Int),(∀ t∈P,sumTo t.m 8≤(D:Nat))→z≤(D:Nat)→P.foldl (fun d t=>max d (sumTo t.m 8)) z≤(D:Nat):=by
  intro P
  induction P with
  | nil=>intro z _ hz;exact hz
  | cons t P ih =>
   intro z hP hz
   exact ih _ (fun u hu=>hP u (by simp [hu])) (Int.max_le.2 ⟨hz,hP t (by simp)⟩)
 refine key P (-1) (fun t ht=>?_) (by omega)
 rw [sumTo_sN (h0 t ht) 8 (by omega)]
 have:=h t ht
 omega
def V4 (P : List Tm):Prop:=∀ t∈P,∀ i,4≤i→i<8→t.m i = 0
theorem V4.nil : V4 []:=fun t ht=>by cases ht
theorem V4.add {P Q:List Tm} (h:V4 P) (k:V4 Q):V4 (mrg P Q):=fun u hu=>by
 rcases mrg_mem P Q u hu with ⟨s,hs,e⟩ | ⟨s,hs,e⟩
 ·rw [← e];exact h s hs
 ·rw [← e];exact k s hs
theorem madeP_v4 (X : List (Nat→Int)) (n:Nat) (deg:Int) (terms:Nat):V4 (madeP X n deg terms):=by
 have key:∀ (X:List (Nat→Int)) (A:List Tm),V4 A→V4 (X.foldl (fun a r=>mrg a (rawT deg (min n 4) r)) A):=by
  intro X
  induction X with
  | nil=>intro A h;exact h
  | cons r X ih =>
   intro A hA
   refine ih _ (hA.add fun t ht i h4 h8=>?_)
   unfold rawT sclL at ht
   split at ht
   ·cases ht
   ·obtain ⟨s,hs,rfl⟩:=List.mem_map.1 ht
    rw [List.mem_singleton.1 hs]
    show 0+expE deg r (min n 4) i = 0
    unfold expE
    rw [if_neg (by omega)]
    rfl
 exact key _ [] V4.nil
theorem OwLe.varL {hp : List Ow} {m T:Nat} {c c':List D} (hl:c.length = c'.length) (h:∀ (k:Nat) d d',c[k]? = some d→c'[k]? = some d'→D.le d d'):OwLe hp m (.var T (c.map .d)) (.var T (c'.map .d)) :=
 OwLe.var (by simpa using hl) fun k y hy => by
  rw [List.getElem?_map] at hy
  cases hc:c'[k]? with
  | none=>rw [hc] at hy;cases hy
  | some d' =>
   rw [hc] at hy
   cases hy
   have hk:k<c.length:=by
    have:=(List.getElem?_eq_some_iff.1 hc).1
    omega
   refine ⟨.d c[k],by rw [List.getElem?_map,List.getElem?_eq_getElem hk];rfl,AVle.le (h k _ _ (List.getElem?_eq_getElem hk) hc)⟩
theorem OwLe.nil8 {hp : List Ow} {m T:Nat}:OwLe hp m (.var T (([ex (.slice none 0 0),ex (.slice none 0 0),ex (.slice none 0 0),ex (.slice none 0 0),ex (.slice none 0 0),ex (.slice none 0 0),ex (.slice none 0 0),ex (.slice none 0 0)]:List D).map .d)) (.var T ((pol8 fun _=>[]).map .d)):=OwLe.varL rfl fun k d d' h1 h2=>by
 match k with
 | 0 | 1 | 2 | 3 | 4 | 5 | 6 | 7=>cases h1;cases h2;exact D.le_nilP
 | k+8=>simp at h1
theorem rsub_pb' {B : Nat→List Tm} {t w:Nat} {d:Int} {K Dg:Nat} {U M:Nat→Nat} (h:SubB B t w d K Dg U M) (hUm:∀ a,a≤Dg→U a≤U Dg) {P:List Tm} {n:Nat} {dp:Int} (hP:PB P n K dp) (hs:DegN P Dg):PB (rsubF B P) (n*t ^ Dg) (n*(U Dg+1)) ((Dg:Int)*d):=by
 have:=rsub_pb h hUm hP.sz hs P.length (Nat.le_refl _)
 rw [List.take_length] at this
 exact this.mono (Nat.mul_le_mul_right _ hP.len) (Nat.mul_le_mul_right _ hP.len) (Int.le_refl _)
theorem nn_pb {P : List Tm} {n N:Nat} {d:Int} (h:PB P n N d):∀ t∈P,∀ i,i<8→0≤t.m i:=fun t ht i hi=>(h.ex t ht i hi).1
def vrK (f : Nat→Int) (k:Nat):Nat→List Tm:=fun j=>if j<k then [⟨1,unitE (f j).toNat⟩] else []
theorem vrK_set (f : Nat→Int) (k:Nat):pol8 (upF (vrK f k) k [⟨1,unitE (f k).toNat⟩]) = pol8 (vrK f (k+1)):=pol8_congr fun i _=>by
 simp only [upF,vrK]
 by_cases h:i = k
 ·subst h;rw [if_pos rfl,if_pos (by omega)]
 ·rw [if_neg h]
  by_cases h2:i<k
  ·rw [if_pos h2,if_pos (by omega)]
  ·rw [if_neg h2,if_neg (by omega)]
theorem vrK_8 (f : Nat→Int):pol8 (vrK f 8) = pol8 (varB fun i=>(f i).toNat):=pol8_congr fun i hi=>by
 simp only [vrK,varB]
 rw [if_pos hi]
def odK (l : Nat→Int) (k:Nat):Nat→Int:=fun j=>if j<k then l j else 0
theorem odK_set (l : Nat→Int) (k:Nat):setM (odK l k) k (l k) = odK l (k+1):=by
 funext j
 simp only [setM,odK]
 rcases Nat.lt_trichotomy j k with h | h | h
 ·rw [if_neg (by omega),if_pos h,if_pos (by omega)]
 ·subst h;rw [if_pos rfl,if_pos (by omega)]
 ·rw [if_neg (by omega),if_neg (by omega),if_neg (by omega)]
def i8C (l : Nat→Int):List D:=[ex (.int .i8 (l 0)),ex (.int .i8 (l 1)),ex (.int .i8 (l 2)),ex (.int .i8 (l 3)),ex (.int .i8 (l 4)),ex (.int .i8 (l 5)),ex (.int .i8 (l 6)),ex (.int .i8 (l 7))]
theorem CellAt.i8 {l : Nat→Int} {k:Nat} (h:k<8):CellAt (i8C l) (0+k*1) (ex (.int .i8 (l k))):=by
 rw [Nat.zero_add,Nat.mul_one]
 refine ⟨h,?_⟩
 match k,h with
 | 0,_=>rfl
 | 1,_=>rfl
 | 2,_=>rfl
 | 3,_=>rfl
 | 4,_=>rfl
 | 5,_=>rfl
 | 6,_=>rfl
 | 7,_=>rfl
theorem RXz_abs (z : Int) (h0:0≤z) (h1:z<8):Abs Tryz.prog 49 [ex (.int .i64 z)] (polD [⟨1,unitE z.toNat⟩]):=by
 have:=RX_abs z.toNat (by omega)
 rwa [Int.toNat_of_nonneg h0] at this
def mV (e : Nat):Nat:=2*e - 1
theorem subV {p : Nat→Nat} {K Dg:Nat} (hK:K≤1000) (hD:Dg≤64):SubB (varB p) 1 1 1 K Dg (fun a=>K+2*a) mV :=
 ⟨fun i _=>var_pb (p i),by omega,by omega,by omega,by rw [Nat.one_pow];omega,by omega,by decide,fun e _ _=>by unfold mV;omega,fun a _ e _ _ _=>by rw [Nat.one_pow];unfold mV;omega,fun a _ e _ _ _=>by unfold mV;omega,fun e _ _=>by unfold mV;omega⟩
theorem poly_deg (X : List (Nat→Int)):DegN (madeP X 4 5 6) 5:=madeP_deg X 4 6 (by omega)
theorem permutes_abs (T : Nat) (X:List (Nat→Int)) (z:Nat) (l:Nat→Int) (hX:Raw8 X) (hz:z≤255) (hl:∀ j,j<8→-128≤l j∧l j≤127):Abs Tryz.prog 10 [agD [r5D T X],ex (.int .u8 (z:Nat)),agD (i8C l)] (ex (.bool true)):=by
 have hp:PB (madeP X 4 5 6) 6 18 5:=madeP_pb X 4 6 (by omega)
 have dp:DegN (madeP X 4 5 6) 5:=poly_deg X
 have cp:=poly_abs T X hX
 have vp:=madeP_v4 X 4 5 6
 generalize madeP X 4 5 6 = p at hp dp cp vp
 have cperm:=RPerm_abs z hz
 obtain ⟨g,hg⟩:=prmF_back z 4 (by omega)
 generalize (prmF z 4).2 = f at cperm hg
 have hf:=hg.ok
 have hq:PB (rmovF f p) 6 114 5:=rmov_pb' hp (by omega)
 have hr:PB (rmovF (backS f 8) (rmovF f p)) 6 690 5:=rmov_pb' hq (by omega)
 have S:=subV (p:=fun i=>(f i).toNat) (K:=18) (Dg:=5) (by omega) (by omega)
 have hs:PB (rsubF (varB fun i=>(f i).toNat) p) 6 174 (5:Nat):=rsub_pb' S (fun a ha=>by omega) hp dp
 have c1:=PPermT_abs p f hf hp (by omega) (by omega)
 have c2:=PPermT_abs (rmovF f p) (backS f 8) (backS_ok hg) hq (by omega) (by omega)
 have c3:=PSubst_abs p S (fun a ha=>by omega) hp (by omega) dp vp (by omega) (by omega) (Int.le_trans (degL_le dp (nn_pb hp)) (by omega)) (by decide) (by omega) (by omega) (fun e he=>by unfold mV;omega) (by decide) (by decide)
 have v1:=RPValid_pb hq (by omega) (by omega) (by omega)
 have s1:=RSame_sim hq.can hs.can (by
  refine (rmov_sim f p).trans (Sim.symm ((rsub_sim _ p).trans ((subst_var _ (nn_pb hp)).trans ?_)))
  rw [movL_sim hf]
  exact Sim.refl _)
 have s2:=RSame_sim hr.can hp.can (rmov_back hg p)
 refine Ab Tryz.func10 fun s0=>?_
 rw [Tryz.ntmps10]
 apply Y1;refine AWs.bx (ao rfl) rfl rfl rfl rfl ?_;refine AWs.bx (ao rfl) rfl rfl rfl rfl ?_;refine Wa ?_;apply Y0;apply Y1;refine Wq (Qz.call (sanity_abs)) ?_;refine Wa ?_;apply Y0;apply AWp.seq;apply Y1;refine Wm ?_;refine Wq Qz.not ?_;apply Y0;refine Cf ?_;apply Ys;apply Y1;refine Wq Qz.ldD ?_;refine Wq (Qz.call (cp)) ?_;refine Wm ?_;refine Wq (Qz.call (cperm)) ?_;refine AWs.al (tab_of rfl) rfl rfl rfl rfl rfl rfl ?_;refine Wa ?_;refine Sf ?_;apply Y0;apply Y1;(refine AWs.q rfl rfl ?_;(refine Bq.arr (tab_of rfl) (tab_of rfl) rfl rfl ?_;(repeat ((first | refine ⟨_,PartOk.ag (ao rfl),?_⟩ | refine ⟨_,PartOk.one rfl (by first | exact One.ex_ rfl | exact One.sl | exact One.ep),?_⟩);refine ⟨_,rfl,?_⟩));refine ⟨_,rfl,?_⟩));refine AWs.al (tab_of rfl) rfl rfl rfl rfl rfl rfl ?_;refine Sf ?_;apply Y0;apply Y1;refine Wq Qz.ldD ?_;refine AWs.al (tab_of rfl) rfl rfl rfl rfl rfl rfl ?_;refine Sf ?_;apply Y0;apply Y1;(refine AWs.q rfl rfl ?_;(refine Bq.arr (tab_of rfl) (tab_of rfl) rfl rfl ?_;(repeat ((first | refine ⟨_,PartOk.ag (ao rfl),?_⟩ | refine ⟨_,PartOk.one rfl (by first | exact One.ex_ rfl | exact One.sl | exact One.ep),?_⟩);refine ⟨_,rfl,?_⟩));refine ⟨_,rfl,?_⟩));refine AWs.al (tab_of rfl) rfl rfl rfl rfl rfl rfl ?_;refine Sf ?_;apply Y0;apply AWp.seq;apply Y1;refine Wa ?_;apply Y0;apply AWp.block
 refine AWp.loop (fun mz σ=>∃ k,k≤8∧mz = 8 - k∧σ = ⟨[(1,.d (ex (.int .u8 (z:Nat)))),(5,.ptr 1 0),(7,.d (ex (.bool true))),(8,.d (polD p)),(9,.ptr 2 0),(10,.ptr 3 0),(11,.ptr 4 0),(12,.ptr 5 0),(13,.d (ex (.int .i64 (k:Nat))))],[.var 37 ([r5D T X].map .d),.var 81 ((i8C l).map .d),.var 30 ((monC f).map .d),.var 77 ((pol8 (vrK f k)).map .d),.var 30 ((monC (backS f k)).map .d),.var 30 ((monC (odK l k)).map .d)]⟩) ?le ⟨0,by omega,rfl,rfl⟩ ?round
 case le=>exact AS.le_of (by refine Yd ?_;refine Yp ?_;refine Yd ?_;refine Yd ?_;refine Yp ?_;refine Yp ?_;refine Yp ?_;refine Yp ?_;refine Yd ?_;exact FrLe.nil) (by apply Yv;apply Yv;apply Yv;refine HpLe.cons (OwLe.nil8) ?_;apply Yv;apply Yv;exact HpLe.nil)
 case round =>
  rintro mz _ ⟨k,hk,rfl,rfl⟩
  by_cases hlt:k<8
  ·obtain ⟨⟨h1,h2,h3⟩,-,-⟩:=hg k hlt
   have hv:=vrK_set f k
   have ho:=odK_set l k
   have hl':=hl k hlt
   apply AWp.seq;apply Y1;refine Wm ?_;refine Wq Qz.cmpT ?_;apply Y0;refine Ct ?_;apply Ys;apply AWp.seq;apply AWp.block;apply Y1;refine Wm ?_;refine Wm ?_;refine Wq Qz.ixP ?_;refine Wq Qz.ldX1 ?_;refine Wq (Qz.call (RXz_abs (f k) h1 h2)) ?_;refine Wq Qz.ixP ?_;refine AWs.stX1 (ao rfl) (ao rfl) rfl (tab_of rfl) One.sl (SetAt.p8 hlt) rfl ?_;apply Y0;apply Y1;refine Wm ?_;refine Wq Qz.ixP ?_;refine Wq Qz.ldX1 ?_;refine Wm ?_;(refine AWs.q rfl rfl ?_;refine ⟨_,Qs.ixPL (i:=f k) (ao rfl) (ao rfl) (tab_of rfl) (tab_of rfl) (by omega) (by omega),?_⟩);refine AWs.stX1 (ao rfl) (ao rfl) rfl (tab_of rfl) (One.ex_ rfl) (SetAt.mon (by omega)) rfl ?_;apply Y0;apply AWp.region;refine Wm ?_;refine Wm ?_;refine Wq Qz.ixP ?_;(refine AWs.q rfl rfl ?_;refine ⟨_,Qs.ldX1 (ao rfl) rfl (tab_of rfl) rfl (CellAt.i8 hlt),?_⟩);refine Wq Qz.conv64 ?_;refine Wq Qz.ixP ?_;refine AWs.stX1 (ao rfl) (ao rfl) rfl (tab_of rfl) (One.ex_ rfl) (SetAt.mon (by omega)) rfl ?_;apply AWl.nil;apply ABlock.normal;apply Yn;apply AWp.region;refine Wm ?_;refine Wq Qz.succ ?_;refine Wa ?_;apply AWl.nil
   refine ALoop.next (8 - (k+1)) (by omega) ⟨k+1,by omega,rfl,rfl⟩ ?_
   exact AS.le_of (by refine Yd ?_;refine Yp ?_;refine Yd ?_;refine Yd ?_;refine Yp ?_;refine Yp ?_;refine Yp ?_;refine Yp ?_;refine Yd ?_;exact FrLe.nil) (by apply Yv;apply Yv;apply Yv;refine HpLe.cons (OwLe.varD hv) ?_;apply Yv;refine HpLe.cons (OwLe.varD (by rw [ho])) ?_;exact HpLe.nil)
  ·obtain rfl : k = 8 := by omega
   rw [vrK_8]
   by_cases hod:PmOk (odK l 8)
   ·have c4 := RPermT_abs p (odK l 8) hod hp (by omega) (by omega) (by omega)
    have c5:=PPermT_abs p (odK l 8) hod hp (by omega) (by omega)
    apply AWp.seq;apply Y1;refine Wm ?_;refine Wq Qz.cmpF ?_;apply Y0;refine Cf ?_;apply AWp.exit;apply AThen.exit;apply ALoop.exit;apply ABlock.hit;apply Yn;apply Y1;refine Wm ?_;refine Wq Qz.ldD ?_;refine Wq (Qz.call (c1)) ?_;refine Wq Qz.ext ?_;refine Wq Qz.ext ?_;refine Wq (Qz.call (got_abs _)) ?_;refine Wa ?_;apply Y0;apply Y1;refine Wm ?_;refine Wq Qz.ldD ?_;refine Wq (Qz.call (c4)) ?_;refine Wm ?_;refine Wq Qz.ext ?_;refine Wq Qz.ext ?_;refine Wa ?_;refine Wa ?_;apply Y0;apply Y1;refine Wm ?_;refine Wq Qz.ldD ?_;refine Wq (Qz.call (c5)) ?_;refine Wm ?_;refine Wq Qz.ext ?_;refine Wq Qz.ext ?_;refine Wa ?_;refine Wa ?_;apply Y0;apply Y1;refine Wm ?_;refine Wq (Qz.call (v1)) ?_;refine Wm ?_;refine Wg Qz.move ?_;refine Wg Qz.move ?_;refine Wg Qz.ldD ?_;refine Wg (Qz.call (c3)) ?_;refine Wg Qz.ext ?_;refine Wg Qz.ext ?_;refine Wg (Qz.call (got_abs _)) ?_;refine Wg (Qz.call (s1)) ?_;refine Wq Qz.pickT ?_;refine Wm ?_;refine Wg Qz.move ?_;refine Wg Qz.ldD ?_;refine Wg (Qz.call (c2)) ?_;refine Wg Qz.ext ?_;refine Wg Qz.ext ?_;refine Wg (Qz.call (got_abs _)) ?_;refine Wg Qz.move ?_;refine Wg (Qz.call (s2)) ?_;refine Wq Qz.pickT ?_;refine Wm ?_;refine Wg Qz.move ?_;refine Wg Qz.move ?_;refine Wg Qz.cmpT ?_;refine Wq Qz.pickT ?_;refine Wm ?_;refine Wg Qz.move ?_;refine Wg Qz.move ?_;refine Wg (Qz.call (RSame_true (SameL.refl (rmovF (odK l 8) p)))) ?_;refine Wq Qz.pickT ?_;refine Wm ?_;refine Wg Qz.move ?_;refine Wq Qz.pickT ?_;refine Wa ?_;apply Y0;apply AWp.ret
    exact Yf
   ·have c4:=RPermF_abs p (odK l 8) hod
    have c5:=PPermF_abs p (odK l 8) hod
    apply AWp.seq;apply Y1;refine Wm ?_;refine Wq Qz.cmpF ?_;apply Y0;refine Cf ?_;apply AWp.exit;apply AThen.exit;apply ALoop.exit;apply ABlock.hit;apply Yn;apply Y1;refine Wm ?_;refine Wq Qz.ldD ?_;refine Wq (Qz.call (c1)) ?_;refine Wq Qz.ext ?_;refine Wq Qz.ext ?_;refine Wq (Qz.call (got_abs _)) ?_;refine Wa ?_;apply Y0;apply Y1;refine Wm ?_;refine Wq Qz.ldD ?_;refine Wq (Qz.call (c4)) ?_;refine Wm ?_;refine Wq Qz.ext ?_;refine Wq Qz.ext ?_;refine Wa ?_;refine Wa ?_;apply Y0;apply Y1;refine Wm ?_;refine Wq Qz.ldD ?_;refine Wq (Qz.call (c5)) ?_;refine Wm ?_;refine Wq Qz.ext ?_;refine Wq Qz.ext ?_;refine Wa ?_;refine Wa ?_;apply Y0;apply Y1;refine Wm ?_;refine Wq (Qz.call (v1)) ?_;refine Wm ?_;refine Wg Qz.move ?_;refine Wg Qz.move ?_;refine Wg Qz.ldD ?_;refine Wg (Qz.call (c3)) ?_;refine Wg Qz.ext ?_;refine Wg Qz.ext ?_;refine Wg (Qz.call (got_abs _)) ?_;refine Wg (Qz.call (s1)) ?_;refine Wq Qz.pickT ?_;refine Wm ?_;refine Wg Qz.move ?_;refine Wg Qz.ldD ?_;refine Wg (Qz.call (c2)) ?_;refine Wg Qz.ext ?_;refine Wg Qz.ext ?_;refine Wg (Qz.call (got_abs _)) ?_;refine Wg Qz.move ?_;refine Wg (Qz.call (s2)) ?_;refine Wq Qz.pickT ?_;refine Wm ?_;refine Wg Qz.move ?_;refine Wg Qz.move ?_;refine Wg Qz.cmpT ?_;refine Wq Qz.pickT ?_;refine Wm ?_;refine Wg Qz.move ?_;refine Wg Qz.move ?_;refine Wg (Qz.call (RSame_true (SameL.refl []))) ?_;refine Wq Qz.pickT ?_;refine Wm ?_;refine Wg Qz.move ?_;refine Wq Qz.pickT ?_;refine Wa ?_;apply Y0;apply AWp.ret
    exact Yf
theorem permutes_law (T : Nat) (X:List (Nat→Int)) (z:Nat) (l:Nat→Int) (hX:Raw8 X) (hz:z≤255) (hl:∀ j,j<8→-128≤l j∧l j≤127):Abs Tryz.prog 10 [agD [r5D T X],ex (.int .u8 (z:Nat)),agD [ex (.int .i8 (l 0)),ex (.int .i8 (l 1)),ex (.int .i8 (l 2)),ex (.int .i8 (l 3)),ex (.int .i8 (l 4)),ex (.int .i8 (l 5)),ex (.int .i8 (l 6)),ex (.int .i8 (l 7))]] (ex (.bool true)):=permutes_abs T X z l hX hz hl
end Go.Proofs.YteicdddphdomkaaGreat
