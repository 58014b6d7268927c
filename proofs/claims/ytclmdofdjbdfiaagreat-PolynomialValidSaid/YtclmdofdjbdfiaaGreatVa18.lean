/- Part 18 of the proof of polynomialValid_holds. No condition. -/
import Derived.Test.YtclmdofdjbdfiaaGreatVa17
set_option linter.unusedSimpArgs false
set_option linter.unusedVariables false
set_option maxRecDepth 100000
set_option maxHeartbeats 2000000
namespace Go.Proofs.YtclmdofdjbdfiaaGreat
open Go.RowKit
theorem NW{z:Int}(h:z<0):EJ z=[ex (.bool true),aD (Af z.natAbs)]:=by rw [EJ,decide_eq_true h]
theorem Je{z:Int}(h:¬z<0):EJ z=[ex (.bool false),aD (Af z.natAbs)]:=by rw [EJ,decide_eq_false h]
theorem Ix(z:Int):Abs Tryz.prog 49 [BX (EJ z)] (ex (.int .i64 z.sign)):=by
 rcases Int.lt_trichotomy z 0 with h | h | h
 .have hl:¬(Af z.natAbs).length=0:=λe=>by have:=As.1 e; omega
  rw [NW h,Int.sign_eq_neg_one_of_neg h]
  refine Ab Tryz.func49 λs0=>?_
  rw [Tryz.ntmps49]
  apply Y1;refine Bx ?_;refine Wa<|Y0<|Ae<|Y1 ?_;refine Wq AB ?_;refine Wq Cr ?_;refine Wq Eo ?_;refine Wq AA ?_;refine Y0<|Cf<|Ys<|Ae<|Y1 ?_;refine Wq AB ?_;refine Wq Cr ?_;refine Y0<|Ct<|Y1<|Wa<|Y0<|Ar<|Az ?_
  exact Yf
 .subst h
  rw [Je (by omega)]
  have hl:(Af (0:Int).natAbs).length=0:=by rw [show (0:Int).natAbs=0 from rfl,AU];rfl
  refine Ab Tryz.func49 λs0=>?_
  rw [Tryz.ntmps49]
  apply Y1;refine Bx ?_;refine Wa<|Y0<|Ae<|Y1 ?_;refine Wq AB ?_;refine Wq Cr ?_;refine Wq Eo ?_;refine Wq AL ?_;refine Y0<|Ct<|Y1<|Wa<|Y0<|Ar<|Az ?_
  exact Yf
 .have hl:¬(Af z.natAbs).length=0:=λe=>by have:=As.1 e; omega
  rw [Je (by omega),Int.sign_eq_one_of_pos h]
  refine Ab Tryz.func49 λs0=>?_
  rw [Tryz.ntmps49]
  apply Y1;refine Bx ?_;refine Wa<|Y0<|Ae<|Y1 ?_;refine Wq AB ?_;refine Wq Cr ?_;refine Wq Eo ?_;refine Wq AA ?_;refine Y0<|Cf<|Ys<|Ae<|Y1 ?_;refine Wq AB ?_;refine Wq Cr ?_;refine Y0<|Cf<|Ys<|Y1<|Wa<|Y0<|Ar ?_
  exact Yf
theorem HU(z:Int):Abs Tryz.prog 53 [BX (EJ z)] (ex (.int .i64 z.sign)):=by
 by_cases h:z<0
 .rw [NW h,Int.sign_eq_neg_one_of_neg h]
  refine Ab Tryz.func53 λs0=>?_
  rw [Tryz.ntmps53]
  apply Y1;refine Bx ?_;refine Wa<|Y0<|Ae<|Y1 ?_;refine Wq AB ?_;refine Wq Cr ?_;refine Y0<|Ct<|Y1<|Wa<|Y0<|Ar<|Az ?_
  exact Yf
 .have he:z.sign=min (((Af z.natAbs).length:Nat):Int) 1:=by
   rcases Int.lt_or_eq_of_le (Int.not_lt.1 h) with h1 | h1
   .have hl:¬(Af z.natAbs).length=0:=λe=>by have:=As.1 e; omega
    rw [Int.sign_eq_one_of_pos h1];omega
   .subst h1
    rw [show (0:Int).natAbs=0 from rfl,AU];rfl
  rw [Je h,he]
  refine Ab Tryz.func53 λs0=>?_
  rw [Tryz.ntmps53]
  apply Y1;refine Bx ?_;refine Wa<|Y0<|Ae<|Y1 ?_;refine Wq AB ?_;refine Wq Cr ?_;refine Y0<|Cf<|Ys<|Y1 ?_;refine Wq AB ?_;refine Wq Cr ?_;refine Wq Eo ?_;refine Wq UE ?_;refine Wa<|Y0<|Ar ?_
  exact Yf
theorem QM(n:Nat):Abs Tryz.prog 58 [ex (.bool false),aD (Af n)] (BX (EJ (n:Nat))):=by
 have ct:=QL (Af n)
 rw [Aw (Bk n),Ag] at ct
 rw [Je (by omega),show ((n:Nat):Int).natAbs=n by omega]
 refine Ab Tryz.func58 λs0=>?_
 rw [Tryz.ntmps58]
 apply Y1;refine Al ?_;refine Y0<|Y1<|Wm ?_;refine Wq (Aq (ct)) ?_;refine Wa<|Y0<|Y1<|Wm<|Wm ?_;refine Ws ?_;refine Ws ?_;refine Ws ?_;refine Wq Ba ?_;refine Wm ?_;(refine By rfl rfl ?_;refine CW (Ad rfl) rfl rfl rfl ?_;refine ⟨_,PartOk.one rfl (Ht rfl),?_⟩;refine ⟨_,rfl,?_⟩;refine ⟨_,PartOk.one rfl One.aD,?_⟩;refine ⟨_,rfl,?_⟩;refine ⟨_,rfl,?_⟩);refine Sf ?_;refine Y0<|Ar ?_
 exact BG (Rets.of1 (ResV.cell rfl rfl (Ad rfl) rfl rfl rfl) (D.le.refl _))
theorem Sl(x y:Int)(hn:(Af x.natAbs).length<=4398046511103)(hn':(Af y.natAbs).length<=4398046511103):Abs Tryz.prog 55 [BX (EJ x),BX (EJ y)] (BX (EJ (Nat.gcd x.natAbs y.natAbs:Nat))):=by
 have cc:=MO x.natAbs y.natAbs hn hn'
 have cm:=QM (Nat.gcd x.natAbs y.natAbs)
 refine Ab Tryz.func55 λs0=>?_
 rw [Tryz.ntmps55]
 apply Y1;refine Bx ?_;refine Bx ?_;refine Al ?_;refine Y0<|Y1 ?_;refine Wq AB ?_;refine Wq Cr ?_;refine Wq AB ?_;refine Wq Cr ?_;refine Wq (Aq (cc)) ?_;refine Wq (Aq (cm)) ?_;refine Sf ?_;refine Y0<|Ar ?_
 exact BG (Rets.of1 (ResV.cell rfl rfl (Ad rfl) rfl rfl rfl) (D.le.refl _))
theorem Jg(b:Bool)(l:List Nat)(hn:l.length<=1000000000):Abs Tryz.prog 48 [BX [ex (.bool b),aD l]] (ex (.bool (Dp b l))):=by
 refine Ab Tryz.func48 λs0=>?_
 rw [Tryz.ntmps48]
 repeat (first | apply Ae | apply AWp.region | (apply Ds;refine Bx ?_) | (refine By rfl rfl ?_;first | (apply Bc;refine ⟨_,AF (ao rfl),?_⟩) | (apply AH;refine ⟨_,AC (ao rfl),?_⟩) | (apply AR;refine ⟨_,CU (ao rfl) rfl (Ad rfl) rfl rfl,?_⟩) | (apply Aj;refine ⟨_,Be (ao rfl) (Ad rfl) rfl (Ad rfl) rfl,?_⟩) | (apply Ef;refine ⟨_,Hs (ao rfl) (Ad rfl),?_⟩) | (apply BE;refine ⟨_,GR (ao rfl) (ao rfl) rfl,?_⟩)) | apply AWl.nil | apply Yn)
 by_cases h0:l.length=0
 .repeat (first | apply Ae | apply AWp.region | (refine By rfl rfl ?_; first | (apply AH; refine ⟨_, AC (ao rfl), ?_⟩) | (apply AR; refine ⟨_, CU (ao rfl) rfl (Ad rfl) rfl rfl, ?_⟩) | (apply Aj; refine ⟨_, Be (ao rfl) (Ad rfl) rfl (Ad rfl) rfl, ?_⟩) | (apply BN; refine ⟨_, Bu (ao rfl), ?_⟩)) | apply AWl.nil | apply Yn | apply Ar | apply Az | (apply Bi; refine Gi (ao rfl) (decide_eq_true (by omega)) ?_))
  exact BG (Rets.of1 (ResV.tmp rfl rfl) (BK (by rw [Dp,if_pos h0])))
 .repeat (first | apply Ae | apply AWp.region | (refine By rfl rfl ?_; first | (apply Bc; refine ⟨_, AF (ao rfl), ?_⟩) | (apply AH; refine ⟨_, AC (ao rfl), ?_⟩) | (apply AR; first | refine ⟨_, CU (ao rfl) rfl (Ad rfl) rfl rfl, ?_⟩ | refine ⟨_, OH (ao rfl) (Ad rfl) rfl, ?_⟩) | (apply Aj; refine ⟨_, Be (ao rfl) (Ad rfl) rfl (Ad rfl) rfl, ?_⟩) | (apply Bo; refine ⟨_, HQ (ao rfl) (ao rfl) (Ad rfl) (Ad rfl) (by first | omega | (simp; omega)), ?_⟩) | (apply SJ; refine ⟨_, FA (ao rfl) (ao rfl) (by omega) (by omega), ?_⟩) | (apply BE; refine ⟨_, GR (ao rfl) (ao rfl) rfl, ?_⟩)) | apply AWl.nil | apply Yn | apply Bg | apply Ar | (apply Bi; refine Gj (ao rfl) (decide_eq_false (by omega)) ?_))
  exact BG (Rets.of1 (ResV.tmp rfl rfl) (BK (by rw [Dp,if_neg h0])))
theorem Im(b:Bool)(l:List Nat)(hn:l.length<=1000000000):Abs Tryz.prog 52 [BX [ex (.bool b),aD l]] (ex (.bool (Dp b l))):=by
 refine Ab Tryz.func52 λs0=>?_
 rw [Tryz.ntmps52]
 repeat (first | apply Ae | apply AWp.region | (apply Ds;refine Bx ?_) | (refine By rfl rfl ?_;first | (apply Bc;refine ⟨_,AF (ao rfl),?_⟩) | (apply AH;refine ⟨_,AC (ao rfl),?_⟩) | (apply AR;refine ⟨_,CU (ao rfl) rfl (Ad rfl) rfl rfl,?_⟩) | (apply Aj;refine ⟨_,Be (ao rfl) (Ad rfl) rfl (Ad rfl) rfl,?_⟩) | (apply Ef;refine ⟨_,Hs (ao rfl) (Ad rfl),?_⟩) | (apply BE;refine ⟨_,GR (ao rfl) (ao rfl) rfl,?_⟩)) | apply AWl.nil | apply Yn)
 by_cases h0:l.length=0
 .repeat (first | apply Ae | apply AWp.region | (refine By rfl rfl ?_; first | (apply AH; refine ⟨_, AC (ao rfl), ?_⟩) | (apply AR; refine ⟨_, CU (ao rfl) rfl (Ad rfl) rfl rfl, ?_⟩) | (apply Aj; refine ⟨_, Be (ao rfl) (Ad rfl) rfl (Ad rfl) rfl, ?_⟩) | (apply BN; refine ⟨_, Bu (ao rfl), ?_⟩)) | apply AWl.nil | apply Yn | apply Ar | apply Az | (apply Bi; refine Gi (ao rfl) (decide_eq_true (by omega)) ?_))
  exact BG (Rets.of1 (ResV.tmp rfl rfl) (BK (by rw [Dp,if_pos h0])))
 .repeat (first | apply Ae | apply AWp.region | (refine By rfl rfl ?_; first | (apply Bc; refine ⟨_, AF (ao rfl), ?_⟩) | (apply AH; refine ⟨_, AC (ao rfl), ?_⟩) | (apply AR; first | refine ⟨_, CU (ao rfl) rfl (Ad rfl) rfl rfl, ?_⟩ | refine ⟨_, OH (ao rfl) (Ad rfl) rfl, ?_⟩) | (apply Aj; refine ⟨_, Be (ao rfl) (Ad rfl) rfl (Ad rfl) rfl, ?_⟩) | (apply Bo; refine ⟨_, HQ (ao rfl) (ao rfl) (Ad rfl) (Ad rfl) (by first | omega | (simp; omega)), ?_⟩) | (apply SJ; refine ⟨_, FA (ao rfl) (ao rfl) (by omega) (by omega), ?_⟩) | (apply BE; refine ⟨_, GR (ao rfl) (ao rfl) rfl, ?_⟩)) | apply AWl.nil | apply Yn | apply Bg | apply Ar | (apply Bi; refine Gj (ao rfl) (decide_eq_false (by omega)) ?_))
  exact BG (Rets.of1 (ResV.tmp rfl rfl) (BK (by rw [Dp,if_neg h0])))
def PY(q:Rat):List D:=[ex (.bool (decide (q.num<0))),aD (Af q.num.natAbs),ex (.bool (decide ((q.den:Int)<0))),aD (Af (q.den:Int).natAbs)]
theorem RY:Af 1=[1]:=by rw [CV (by decide),show 1/BB=0 from rfl,AU];rfl
theorem Th{z:Int}(h:(Af z.natAbs).length=1):(Af z.natAbs).getD 0 0=z.natAbs:=by
 obtain ⟨w,hw⟩:∃w,Af z.natAbs=[w]:=List.length_eq_one_iff.1 h
 have:=Ag z.natAbs
 rw [hw] at this ⊢
 have h2:w+BB*0=z.natAbs:=this
 show w=_
 omega
theorem Kt(z:Int):Abs Tryz.prog 50 [BX (EJ z)] (ex (.bool (decide (z=1)))):=by
 by_cases hz:z<0
 .rw [decide_eq_false (show ¬z=1 by omega), NW hz]
  refine Ab Tryz.func50 λs0=>?_
  rw [Tryz.ntmps50]
  apply Y1;refine Bx ?_;refine Wa<|Y0<|Y1 ?_;refine Wq AB ?_;refine Wq Cr ?_;refine Wq Cn ?_;refine Wm ?_;refine Ws ?_;refine Ws ?_;refine Ws ?_;refine Ws ?_;refine Wq Ba ?_;refine Wm ?_;refine Ws ?_;refine Ws ?_;refine Ws ?_;refine Ws ?_;refine Ws ?_;refine Wq Ba ?_;refine Wa<|Y0<|Ar ?_
  exact Yf
 .rw [Je hz]
  by_cases h1:(Af z.natAbs).length=1
  .have h2:=Th h1
   have h0:(0:Nat)<(Af z.natAbs).length:=by omega
   have hd:decide (z=1)=decide ((((Af z.natAbs).getD 0 0:Nat):Int)=1):=decide_eq_decide.2 (by rw [h2];omega)
   rw [hd]
   refine Ab Tryz.func50 λs0=>?_
   rw [Tryz.ntmps50]
   apply Y1;refine Bx ?_;refine Wa<|Y0<|Y1 ?_;refine Wq AB ?_;refine Wq Cr ?_;refine Wq Cn ?_;refine Wm ?_;refine Wg AB ?_;refine Wg Cr ?_;refine Wg (Hs (ao rfl) (Ad rfl)) ?_;refine Wg AL ?_;refine Wq Bv ?_;refine Wm ?_;refine Wg AB ?_;refine Wg Cr ?_;refine Wg (HQ (l:=Af z.natAbs) (k:=0) (ao rfl) (ao rfl) (Ad rfl) (Ad rfl) h0) ?_;refine Wg (OH (ao rfl) (Ad rfl) rfl) ?_;refine Wg Ov ?_;refine Wq Bv ?_;refine Wa<|Y0<|Ar ?_
   exact Yf
  .have hne:¬z=1:=λe=>h1 (by rw [e]; exact congrArg List.length RY)
   rw [decide_eq_false hne]
   refine Ab Tryz.func50 λs0=>?_
   rw [Tryz.ntmps50]
   apply Y1;refine Bx ?_;refine Wa<|Y0<|Y1 ?_;refine Wq AB ?_;refine Wq Cr ?_;refine Wq Cn ?_;refine Wm ?_;refine Wg AB ?_;refine Wg Cr ?_;refine Wg (Hs (ao rfl) (Ad rfl)) ?_;refine Wg AA ?_;refine Wq Bv ?_;refine Wm ?_;refine Ws ?_;refine Ws ?_;refine Ws ?_;refine Ws ?_;refine Ws ?_;refine Wq Ba ?_;refine Wa<|Y0<|Ar ?_
   exact Yf
theorem Pi{q:Rat}{n d:Int}(hn:q.num=n)(hd:(q.den:Int)=d):EJ n++EJ d=PY q:=by
 rw [PY,hn,hd]
 rfl
theorem Si(p:Rat):Abs Tryz.prog 24 [BX (PY p)] (ex (.int .i64 p.num.sign)):=by
 rw [<-Pi (q:=p) rfl rfl]
 refine Ab Tryz.func24 λs0=>?_
 rw [Tryz.ntmps24]
 apply Y1;refine Bx ?_;refine Wa<|Y0<|Y1 ?_;refine Wq AB ?_;refine Wq AO ?_;refine Wq (Aq (Ix p.num)) ?_;refine Wa<|Y0<|Ar ?_
 exact Yf
theorem QU(p:Rat):Abs Tryz.prog 28 [BX (PY p)] (ex (.int .i64 p.num.sign)):=by
 rw [<-Pi (q:=p) rfl rfl]
 refine Ab Tryz.func28 λs0=>?_
 rw [Tryz.ntmps28]
 apply Y1;refine Bx ?_;refine Wa<|Y0<|Y1 ?_;refine Wq AB ?_;refine Wq AO ?_;refine Wq (Aq (HU p.num)) ?_;refine Wa<|Y0<|Ar ?_
 exact Yf
theorem QP(b b':Bool)(m m':Nat):Abs Tryz.prog 54 [BX [ex (.bool b),aD (Af m)],BX [ex (.bool b'),aD (Af m')]] (ex (.int .i64 (Vf b m b' m'))):=by
 cases b<;>cases b'
 .refine Ab Tryz.func54 λs0=>?_
  rw [Tryz.ntmps54]
  repeat (first | apply Ae | apply AWp.region | (apply Ds;refine Bx ?_) | (refine By rfl rfl ?_;first | (apply Bc;refine ⟨_,AF (ao rfl),?_⟩) | (apply AH;refine ⟨_,AC (ao rfl),?_⟩) | (apply AR;refine ⟨_,CU (ao rfl) rfl (Ad rfl) rfl rfl,?_⟩) | (apply Aj;refine ⟨_,Be (ao rfl) (Ad rfl) rfl (Ad rfl) rfl,?_⟩) | (apply BN;refine ⟨_,Bu (ao rfl),?_⟩) | (apply BO;first | refine ⟨_,Cb (ao rfl) (ao rfl),?_⟩ | refine ⟨_,BF (ao rfl) (ao rfl),?_⟩) | (apply AT;refine ⟨_,Ak (ao rfl) (GE m m') (by first | ((repeat (first | exact ArgsLe.nil | refine ArgsLe.cons rfl (D.le.refl _) ?_ | refine ArgsLe.cons rfl Ai ?_));done) | fail),?_⟩)) | refine DS rfl rfl rfl rfl rfl ?_ | (refine Cs rfl rfl rfl rfl rfl ?_;first | (apply AR;refine ⟨_,CU (ao rfl) rfl (Ad rfl) rfl rfl,?_⟩) | (apply Aj;refine ⟨_,Be (ao rfl) (Ad rfl) rfl (Ad rfl) rfl,?_⟩)) | apply AWl.nil | apply Yn | apply Bg | apply Ar | (apply Bi;refine Cf ?_))
  exact Yf
 .refine Ab Tryz.func54 λs0=>?_
  rw [Tryz.ntmps54]
  repeat (first | apply Ae | apply AWp.region | (apply Ds;refine Bx ?_) | (refine By rfl rfl ?_;first | (apply Bc;refine ⟨_,AF (ao rfl),?_⟩) | (apply AH;refine ⟨_,AC (ao rfl),?_⟩) | (apply AR;refine ⟨_,CU (ao rfl) rfl (Ad rfl) rfl rfl,?_⟩) | (apply Aj;refine ⟨_,Be (ao rfl) (Ad rfl) rfl (Ad rfl) rfl,?_⟩) | (apply BN;refine ⟨_,Bu (ao rfl),?_⟩) | (apply BO;first | refine ⟨_,Cb (ao rfl) (ao rfl),?_⟩ | refine ⟨_,BF (ao rfl) (ao rfl),?_⟩)) | refine DS rfl rfl rfl rfl rfl ?_ | (refine Cs rfl rfl rfl rfl rfl ?_;first | (apply AR;refine ⟨_,CU (ao rfl) rfl (Ad rfl) rfl rfl,?_⟩) | (apply Aj;refine ⟨_,Be (ao rfl) (Ad rfl) rfl (Ad rfl) rfl,?_⟩)) | apply AWl.nil | apply Yn | apply Bg | apply Ar | apply Az | (apply Bi;first | refine Ct ?_ | refine Cf ?_))
  exact Yf
 .refine Ab Tryz.func54 λs0=>?_
  rw [Tryz.ntmps54]
  repeat (first | apply Ae | apply AWp.region | (apply Ds;refine Bx ?_) | (refine By rfl rfl ?_;first | (apply Bc;refine ⟨_,AF (ao rfl),?_⟩) | (apply AH;refine ⟨_,AC (ao rfl),?_⟩) | (apply AR;refine ⟨_,CU (ao rfl) rfl (Ad rfl) rfl rfl,?_⟩) | (apply Aj;refine ⟨_,Be (ao rfl) (Ad rfl) rfl (Ad rfl) rfl,?_⟩) | (apply BO;refine ⟨_,Cb (ao rfl) (ao rfl),?_⟩)) | (refine Cs rfl rfl rfl rfl rfl ?_;first | (apply AR;refine ⟨_,CU (ao rfl) rfl (Ad rfl) rfl rfl,?_⟩) | (apply Aj;refine ⟨_,Be (ao rfl) (Ad rfl) rfl (Ad rfl) rfl,?_⟩) | (apply BN;refine ⟨_,Bu (ao rfl),?_⟩)) | apply AWl.nil | apply Yn | apply Ar | apply Az | (apply Bi;refine Ct ?_))
  exact Yf
 .refine Ab Tryz.func54 λs0=>?_
  rw [Tryz.ntmps54]
  repeat (first | apply Ae | apply AWp.region | (apply Ds;refine Bx ?_) | (refine By rfl rfl ?_;first | (apply Bc;refine ⟨_,AF (ao rfl),?_⟩) | (apply AH;refine ⟨_,AC (ao rfl),?_⟩) | (apply AR;refine ⟨_,CU (ao rfl) rfl (Ad rfl) rfl rfl,?_⟩) | (apply Aj;refine ⟨_,Be (ao rfl) (Ad rfl) rfl (Ad rfl) rfl,?_⟩) | (apply BN;refine ⟨_,Bu (ao rfl),?_⟩) | (apply BO;first | refine ⟨_,Cb (ao rfl) (ao rfl),?_⟩ | refine ⟨_,BF (ao rfl) (ao rfl),?_⟩) | (apply AT;refine ⟨_,Ak (ao rfl) (GE m' m) (by first | ((repeat (first | exact ArgsLe.nil | refine ArgsLe.cons rfl (D.le.refl _) ?_ | refine ArgsLe.cons rfl Ai ?_));done) | fail),?_⟩)) | refine DS rfl rfl rfl rfl rfl ?_ | (refine Cs rfl rfl rfl rfl rfl ?_;first | (apply AR;refine ⟨_,CU (ao rfl) rfl (Ad rfl) rfl rfl,?_⟩) | (apply Aj;refine ⟨_,Be (ao rfl) (Ad rfl) rfl (Ad rfl) rfl,?_⟩) | (apply BN;refine ⟨_,Bu (ao rfl),?_⟩)) | apply AWl.nil | apply Yn | apply Bg | apply Ar | apply Az | (apply Bi;first | refine Ct ?_ | refine Cf ?_))
  exact Yf
theorem QQ(x y:Int):Abs Tryz.prog 54 [BX (EJ x),BX (EJ y)] (ex (.int .i64 (x-y).sign)):=by
 rw [<-QC]
 exact QP _ _ _ _
def ND(b:Bool)(l:List Nat)(b':Bool)(l':List Nat):List D:=[ex (.bool b),aD l,ex (.bool b'),aD l']
open Classical in
theorem NG(b:Bool)(l:List Nat)(b':Bool)(l':List Nat)(hs:AI l)(hs':AI l')(hn:l.length<=1000000000)(hn':l'.length<=1000000000):Abs Tryz.prog 23 [BX (ND b l b' l')] (ex (.bool (decide (Lz b l b' l')))):=by
 have c1:=Jg b l hn
 have c2:=Jg b' l' hn'
 cases h1:Dp b l with
 | false=>
  have hq:¬Lz b l b' l':=λh=>by rw [(HT h).1] at h1;cases h1
  rw [h1] at c1
  rw [decide_eq_false hq]
  refine Ab Tryz.func23 λs0=>?_
  rw [Tryz.ntmps23]
  repeat (first | apply Ae | apply AWp.region | (apply Ds;refine Bx ?_) | (refine By rfl rfl ?_;first | (apply Bc;refine ⟨_,AF (ao rfl),?_⟩) | (apply AH;refine ⟨_,AC (ao rfl),?_⟩) | (apply AR;refine ⟨_,BR (ao rfl) rfl (Ad rfl) rfl rfl,?_⟩) | (apply Aj;refine ⟨_,Be (ao rfl) (Ad rfl) rfl (Ad rfl) rfl,?_⟩) | (apply BN;refine ⟨_,Bu (ao rfl),?_⟩) | (apply BO;refine ⟨_,Cb (ao rfl) (ao rfl),?_⟩) | (apply AT;refine ⟨_,Ak (ao rfl) (c1) (by first | ((repeat (first | exact ArgsLe.nil | refine ArgsLe.cons rfl (D.le.refl _) ?_ | refine ArgsLe.cons rfl Ai ?_));done) | fail),?_⟩)) | refine DS rfl rfl rfl rfl rfl ?_ | apply AWl.nil | apply Yn | apply Ar | apply Az | (apply Bi;refine Ct ?_))
  exact Yf
 | true=>
  rw [h1] at c1
  cases h2:Dp b' l' with
  | false=>
   have hq:¬Lz b l b' l':=λh=>by rw [(HT h).2] at h2;cases h2
   rw [h2] at c2
   rw [decide_eq_false hq]
   refine Ab Tryz.func23 λs0=>?_
   rw [Tryz.ntmps23]
   repeat (first | apply Ae | apply AWp.region | (apply Ds;refine Bx ?_) | (refine By rfl rfl ?_;first | (apply Bc;refine ⟨_,AF (ao rfl),?_⟩) | (apply AH;refine ⟨_,AC (ao rfl),?_⟩) | (apply AR;refine ⟨_,BR (ao rfl) rfl (Ad rfl) rfl rfl,?_⟩) | (apply Aj;refine ⟨_,Be (ao rfl) (Ad rfl) rfl (Ad rfl) rfl,?_⟩) | (apply BN;refine ⟨_,Bu (ao rfl),?_⟩) | (apply BO;first | refine ⟨_,Cb (ao rfl) (ao rfl),?_⟩ | refine ⟨_,BF (ao rfl) (ao rfl),?_⟩) | (apply AT;refine ⟨_,Ak (ao rfl) (c1) (by first | ((repeat (first | exact ArgsLe.nil | refine ArgsLe.cons rfl (D.le.refl _) ?_ | refine ArgsLe.cons rfl Ai ?_));done) | fail),?_⟩)) | refine DS rfl rfl rfl rfl rfl ?_ | (refine Cs rfl rfl rfl rfl rfl ?_;first | (apply AR;refine ⟨_,BR (ao rfl) rfl (Ad rfl) rfl rfl,?_⟩) | (apply Aj;refine ⟨_,Be (ao rfl) (Ad rfl) rfl (Ad rfl) rfl,?_⟩) | (apply BN;refine ⟨_,Bu (ao rfl),?_⟩) | (apply AT;refine ⟨_,Ak (ao rfl) (c2) (by first | ((repeat (first | exact ArgsLe.nil | refine ArgsLe.cons rfl (D.le.refl _) ?_ | refine ArgsLe.cons rfl Ai ?_));done) | fail),?_⟩)) | apply AWl.nil | apply Yn | apply Ar | apply Az | (apply Bi;refine Ct ?_))
   exact Yf
  | true=>
   rw [h2] at c2
   obtain ⟨x,rfl,rfl⟩:=Es hs h1
   obtain ⟨y,rfl,rfl⟩:=Es hs' h2
   by_cases hy:0<y
   .have hsg:y.sign=1:=Int.sign_eq_one_of_pos hy
    have c3:=Kt y
    by_cases hy1:y=1
    .rw [decide_eq_true hy1] at c3
     rw [decide_eq_true ((ER x y).2 ⟨hy,by subst hy1;exact Nat.gcd_one_right _⟩)]
     refine Ab Tryz.func23 λs0=>?_
     rw [Tryz.ntmps23]
     repeat (first | apply Ae | apply AWp.region | (apply Ds;refine Bx ?_) | (refine By rfl rfl ?_;first | (apply Bc;refine ⟨_,AF (ao rfl),?_⟩) | (apply AH;refine ⟨_,AC (ao rfl),?_⟩) | (apply AR;refine ⟨_,BR (ao rfl) rfl (Ad rfl) rfl rfl,?_⟩) | (apply Aj;refine ⟨_,Be (ao rfl) (Ad rfl) rfl (Ad rfl) rfl,?_⟩) | (apply BN;refine ⟨_,Bu (ao rfl),?_⟩) | (apply BO;first | refine ⟨_,Cb (ao rfl) (ao rfl),?_⟩ | refine ⟨_,BF (ao rfl) (ao rfl),?_⟩) | (apply AT;first | refine ⟨_,Ak (ao rfl) (c1) (by first | ((repeat (first | exact ArgsLe.nil | refine ArgsLe.cons rfl (D.le.refl _) ?_ | refine ArgsLe.cons rfl Ai ?_));done) | fail),?_⟩ | refine ⟨_,Ak (ao rfl) (c3) (by first | ((repeat (first | exact ArgsLe.nil | refine ArgsLe.cons rfl (D.le.refl _) ?_ | refine ArgsLe.cons rfl Ai ?_));done) | fail),?_⟩)) | refine DS rfl rfl rfl rfl rfl ?_ | (refine Cs rfl rfl rfl rfl rfl ?_;first | (apply AR;refine ⟨_,BR (ao rfl) rfl (Ad rfl) rfl rfl,?_⟩) | (apply Aj;refine ⟨_,Be (ao rfl) (Ad rfl) rfl (Ad rfl) rfl,?_⟩) | (apply BE;refine ⟨_,Cc rfl (ao rfl) (ao rfl) (by first | (simp only [AG,List.length_cons,List.length_nil];omega) | (simp [AG];done) | (simp [AG];omega)),?_⟩) | (apply BN;refine ⟨_,Bu (ao rfl),?_⟩) | (apply AT;first | refine ⟨_,Ak (ao rfl) (c2) (by first | ((repeat (first | exact ArgsLe.nil | refine ArgsLe.cons rfl (D.le.refl _) ?_ | refine ArgsLe.cons rfl Ai ?_));done) | fail),?_⟩ | refine ⟨_,Ak (ao rfl) (Ix y) (by first | ((repeat (first | exact ArgsLe.nil | refine ArgsLe.cons rfl (D.le.refl _) ?_ | refine ArgsLe.cons rfl Ai ?_));done) | fail),?_⟩)) | apply AWl.nil | apply Yn | apply Bg | apply Ar | (apply Bi;refine Cf ?_))
     exact Yf
    .rw [decide_eq_false hy1] at c3
     have hg:decide (Lz (decide (x<0)) (Af x.natAbs) (decide (y<0)) (Af y.natAbs))=decide (((Nat.gcd x.natAbs y.natAbs:Nat):Int)=1):=by
      refine decide_eq_decide.2 ((ER x y).trans ⟨λh=>by omega,λh=>⟨hy,by omega⟩⟩)
     rw [hg]
     refine Ab Tryz.func23 λs0=>?_
     rw [Tryz.ntmps23]
     repeat (first | apply Ae | apply AWp.region | (apply Ds;refine Bx ?_) | (refine By rfl rfl ?_;first | (apply Bc;refine ⟨_,AF (ao rfl),?_⟩) | (apply AH;refine ⟨_,AC (ao rfl),?_⟩) | (apply AR;refine ⟨_,BR (ao rfl) rfl (Ad rfl) rfl rfl,?_⟩) | (apply Aj;refine ⟨_,Be (ao rfl) (Ad rfl) rfl (Ad rfl) rfl,?_⟩) | (apply BN;refine ⟨_,Bu (ao rfl),?_⟩) | (apply BO;refine ⟨_,BF (ao rfl) (ao rfl),?_⟩) | (apply AT;first | refine ⟨_,Ak (ao rfl) (c1) (by first | ((repeat (first | exact ArgsLe.nil | refine ArgsLe.cons rfl (D.le.refl _) ?_ | refine ArgsLe.cons rfl Ai ?_));done) | fail),?_⟩ | refine ⟨_,Ak (ao rfl) (c3) (by first | ((repeat (first | exact ArgsLe.nil | refine ArgsLe.cons rfl (D.le.refl _) ?_ | refine ArgsLe.cons rfl Ai ?_));done) | fail),?_⟩)) | (refine Cs rfl rfl rfl rfl rfl ?_;first | (apply AR;refine ⟨_,BR (ao rfl) rfl (Ad rfl) rfl rfl,?_⟩) | (apply Aj;refine ⟨_,Be (ao rfl) (Ad rfl) rfl (Ad rfl) rfl,?_⟩) | (apply BE;refine ⟨_,Cc rfl (ao rfl) (ao rfl) (by first | (simp only [AG,List.length_cons,List.length_nil];omega) | (simp [AG];done) | (simp [AG];omega)),?_⟩) | (apply BN;refine ⟨_,Bu (ao rfl),?_⟩) | (apply AT;first | refine ⟨_,Ak (ao rfl) (c2) (by first | ((repeat (first | exact ArgsLe.nil | refine ArgsLe.cons rfl (D.le.refl _) ?_ | refine ArgsLe.cons rfl Ai ?_));done) | fail),?_⟩ | refine ⟨_,Ak (ao rfl) (Ix y) (by first | ((repeat (first | exact ArgsLe.nil | refine ArgsLe.cons rfl (D.le.refl _) ?_ | refine ArgsLe.cons rfl Ai ?_));done) | fail),?_⟩ | refine ⟨_,Ak (ao rfl) (Tx x y (by omega) (by omega)) (by first | ((repeat (first | exact ArgsLe.nil | refine ArgsLe.cons rfl (D.le.refl _) ?_ | refine ArgsLe.cons rfl Ai ?_));done) | fail),?_⟩ | refine ⟨_,Ak (ao rfl) (Kt (Nat.gcd x.natAbs y.natAbs:Nat)) (by first | ((repeat (first | exact ArgsLe.nil | refine ArgsLe.cons rfl (D.le.refl _) ?_ | refine ArgsLe.cons rfl Ai ?_));done) | fail),?_⟩)) | apply AWl.nil | apply Yn | apply Bg | apply Ar | (apply Bi;refine Cf ?_))
     exact Yf
   .have hsg:y.sign<=0:=Int.sign_nonpos_iff.2 (by omega)
    rw [decide_eq_false λh=>hy ((ER x y).1 h).1]
    refine Ab Tryz.func23 λs0=>?_
    rw [Tryz.ntmps23]
    repeat (first | apply Ae | apply AWp.region | (apply Ds;refine Bx ?_) | (refine By rfl rfl ?_;first | (apply Bc;refine ⟨_,AF (ao rfl),?_⟩) | (apply AH;refine ⟨_,AC (ao rfl),?_⟩) | (apply AR;refine ⟨_,BR (ao rfl) rfl (Ad rfl) rfl rfl,?_⟩) | (apply Aj;refine ⟨_,Be (ao rfl) (Ad rfl) rfl (Ad rfl) rfl,?_⟩) | (apply BN;refine ⟨_,Bu (ao rfl),?_⟩) | (apply BO;refine ⟨_,BF (ao rfl) (ao rfl),?_⟩) | (apply AT;refine ⟨_,Ak (ao rfl) (c1) (by first | ((repeat (first | exact ArgsLe.nil | refine ArgsLe.cons rfl (D.le.refl _) ?_ | refine ArgsLe.cons rfl Ai ?_));done) | fail),?_⟩)) | (refine Cs rfl rfl rfl rfl rfl ?_;first | (apply AR;refine ⟨_,BR (ao rfl) rfl (Ad rfl) rfl rfl,?_⟩) | (apply Aj;refine ⟨_,Be (ao rfl) (Ad rfl) rfl (Ad rfl) rfl,?_⟩) | (apply BE;refine ⟨_,BV rfl (ao rfl) (ao rfl) (by first | (simp only [AG,List.length_cons,List.length_nil];omega) | (simp [AG];done) | (simp [AG];omega)),?_⟩) | (apply BN;refine ⟨_,Bu (ao rfl),?_⟩) | (apply AT;first | refine ⟨_,Ak (ao rfl) (c2) (by first | ((repeat (first | exact ArgsLe.nil | refine ArgsLe.cons rfl (D.le.refl _) ?_ | refine ArgsLe.cons rfl Ai ?_));done) | fail),?_⟩ | refine ⟨_,Ak (ao rfl) (Ix y) (by first | ((repeat (first | exact ArgsLe.nil | refine ArgsLe.cons rfl (D.le.refl _) ?_ | refine ArgsLe.cons rfl Ai ?_));done) | fail),?_⟩)) | apply AWl.nil | apply Yn | apply Ar | apply Az | (apply Bi;refine Ct ?_))
    exact Yf
open Classical in
theorem ME(b:Bool)(l:List Nat)(b':Bool)(l':List Nat)(hs:AI l)(hs':AI l')(hn:l.length<=1000000000)(hn':l'.length<=1000000000):Abs Tryz.prog 27 [BX (ND b l b' l')] (ex (.bool (decide (Lz b l b' l')))):=by
 have c1:=Im b l hn
 have c2:=Im b' l' hn'
 cases h1:Dp b l with
 | false=>
  have hq:¬Lz b l b' l':=λh=>by rw [(HT h).1] at h1;cases h1
  rw [h1] at c1
  rw [decide_eq_false hq]
  refine Ab Tryz.func27 λs0=>?_
  rw [Tryz.ntmps27]
  repeat (first | apply Ae | apply AWp.region | (apply Ds;refine Bx ?_) | (refine By rfl rfl ?_;first | (apply Bc;refine ⟨_,AF (ao rfl),?_⟩) | (apply AH;refine ⟨_,AC (ao rfl),?_⟩) | (apply AR;refine ⟨_,BR (ao rfl) rfl (Ad rfl) rfl rfl,?_⟩) | (apply Aj;refine ⟨_,Be (ao rfl) (Ad rfl) rfl (Ad rfl) rfl,?_⟩) | (apply BN;refine ⟨_,Bu (ao rfl),?_⟩) | (apply BO;refine ⟨_,Cb (ao rfl) (ao rfl),?_⟩) | (apply AT;refine ⟨_,Ak (ao rfl) (c1) (by first | ((repeat (first | exact ArgsLe.nil | refine ArgsLe.cons rfl (D.le.refl _) ?_ | refine ArgsLe.cons rfl Ai ?_));done) | fail),?_⟩)) | refine DS rfl rfl rfl rfl rfl ?_ | apply AWl.nil | apply Yn | apply Ar | apply Az | (apply Bi;refine Ct ?_))
  exact Yf
 | true=>
  rw [h1] at c1
  cases h2:Dp b' l' with
  | false=>
   have hq:¬Lz b l b' l':=λh=>by rw [(HT h).2] at h2;cases h2
   rw [h2] at c2
   rw [decide_eq_false hq]
   refine Ab Tryz.func27 λs0=>?_
   rw [Tryz.ntmps27]
   repeat (first | apply Ae | apply AWp.region | (apply Ds;refine Bx ?_) | (refine By rfl rfl ?_;first | (apply Bc;refine ⟨_,AF (ao rfl),?_⟩) | (apply AH;refine ⟨_,AC (ao rfl),?_⟩) | (apply AR;refine ⟨_,BR (ao rfl) rfl (Ad rfl) rfl rfl,?_⟩) | (apply Aj;refine ⟨_,Be (ao rfl) (Ad rfl) rfl (Ad rfl) rfl,?_⟩) | (apply BN;refine ⟨_,Bu (ao rfl),?_⟩) | (apply BO;first | refine ⟨_,Cb (ao rfl) (ao rfl),?_⟩ | refine ⟨_,BF (ao rfl) (ao rfl),?_⟩) | (apply AT;refine ⟨_,Ak (ao rfl) (c1) (by first | ((repeat (first | exact ArgsLe.nil | refine ArgsLe.cons rfl (D.le.refl _) ?_ | refine ArgsLe.cons rfl Ai ?_));done) | fail),?_⟩)) | refine DS rfl rfl rfl rfl rfl ?_ | (refine Cs rfl rfl rfl rfl rfl ?_;first | (apply AR;refine ⟨_,BR (ao rfl) rfl (Ad rfl) rfl rfl,?_⟩) | (apply Aj;refine ⟨_,Be (ao rfl) (Ad rfl) rfl (Ad rfl) rfl,?_⟩) | (apply BN;refine ⟨_,Bu (ao rfl),?_⟩) | (apply AT;refine ⟨_,Ak (ao rfl) (c2) (by first | ((repeat (first | exact ArgsLe.nil | refine ArgsLe.cons rfl (D.le.refl _) ?_ | refine ArgsLe.cons rfl Ai ?_));done) | fail),?_⟩)) | apply AWl.nil | apply Yn | apply Ar | apply Az | (apply Bi;refine Ct ?_))
   exact Yf
  | true=>
   rw [h2] at c2
   obtain ⟨x,rfl,rfl⟩:=Es hs h1
   obtain ⟨y,rfl,rfl⟩:=Es hs' h2
   by_cases hy:0<y
   .have hsg:y.sign=1:=Int.sign_eq_one_of_pos hy
    have hg:decide (Lz (decide (x<0)) (Af x.natAbs) (decide (y<0)) (Af y.natAbs))=((((Nat.gcd x.natAbs y.natAbs:Nat):Int)-1).sign==0):=by
     have hpos:0<Nat.gcd x.natAbs y.natAbs:=Nat.gcd_pos_of_pos_right _ (by omega)
     rw [RD hpos]
     exact decide_eq_decide.2 ((ER x y).trans ⟨λh=>h.2,λh=>⟨hy,h⟩⟩)
    rw [hg]
    refine Ab Tryz.func27 λs0=>?_
    rw [Tryz.ntmps27]
    repeat (first | apply Ae | apply AWp.region | (apply Ds;refine Bx ?_) | (refine By rfl rfl ?_;first | (apply Bc;refine ⟨_,AF (ao rfl),?_⟩) | (apply AH;refine ⟨_,AC (ao rfl),?_⟩) | (apply AR;refine ⟨_,BR (ao rfl) rfl (Ad rfl) rfl rfl,?_⟩) | (apply Aj;refine ⟨_,Be (ao rfl) (Ad rfl) rfl (Ad rfl) rfl,?_⟩) | (apply BE;refine ⟨_,GR (ao rfl) (ao rfl) rfl,?_⟩) | (apply BN;refine ⟨_,Bu (ao rfl),?_⟩) | (apply BO;refine ⟨_,BF (ao rfl) (ao rfl),?_⟩) | (apply AT;first | refine ⟨_,Ak (ao rfl) (c1) (by first | ((repeat (first | exact ArgsLe.nil | refine ArgsLe.cons rfl (D.le.refl _) ?_ | refine ArgsLe.cons rfl Ai ?_));done) | fail),?_⟩ | refine ⟨_,Ak (ao rfl) (Sl x y (by omega) (by omega)) (by first | ((repeat (first | exact ArgsLe.nil | refine ArgsLe.cons rfl (D.le.refl _) ?_ | refine ArgsLe.cons rfl Ai ?_));done) | fail),?_⟩ | refine ⟨_,Ak (ao rfl) (TH 1 (by omega) (by omega)) (by first | ((repeat (first | exact ArgsLe.nil | refine ArgsLe.cons rfl (D.le.refl _) ?_ | refine ArgsLe.cons rfl Ai ?_));done) | fail),?_⟩ | refine ⟨_,Ak (ao rfl) (QQ (Nat.gcd x.natAbs y.natAbs:Nat) 1) (by first | ((repeat (first | exact ArgsLe.nil | refine ArgsLe.cons rfl (D.le.refl _) ?_ | refine ArgsLe.cons rfl Ai ?_));done) | fail),?_⟩)) | (refine Cs rfl rfl rfl rfl rfl ?_;first | (apply AR;refine ⟨_,BR (ao rfl) rfl (Ad rfl) rfl rfl,?_⟩) | (apply Aj;refine ⟨_,Be (ao rfl) (Ad rfl) rfl (Ad rfl) rfl,?_⟩) | (apply BE;refine ⟨_,Cc rfl (ao rfl) (ao rfl) (by first | (simp only [AG,List.length_cons,List.length_nil];omega) | (simp [AG];done) | (simp [AG];omega)),?_⟩) | (apply BN;refine ⟨_,Bu (ao rfl),?_⟩) | (apply AT;first | refine ⟨_,Ak (ao rfl) (c2) (by first | ((repeat (first | exact ArgsLe.nil | refine ArgsLe.cons rfl (D.le.refl _) ?_ | refine ArgsLe.cons rfl Ai ?_));done) | fail),?_⟩ | refine ⟨_,Ak (ao rfl) (HU y) (by first | ((repeat (first | exact ArgsLe.nil | refine ArgsLe.cons rfl (D.le.refl _) ?_ | refine ArgsLe.cons rfl Ai ?_));done) | fail),?_⟩)) | apply AWl.nil | apply Yn | apply Bg | apply Ar | (apply Bi;refine Cf ?_))
    exact Yf
   .have hsg:y.sign<=0:=Int.sign_nonpos_iff.2 (by omega)
    rw [decide_eq_false λh=>hy ((ER x y).1 h).1]
    refine Ab Tryz.func27 λs0=>?_
    rw [Tryz.ntmps27]
    repeat (first | apply Ae | apply AWp.region | (apply Ds;refine Bx ?_) | (refine By rfl rfl ?_;first | (apply Bc;refine ⟨_,AF (ao rfl),?_⟩) | (apply AH;refine ⟨_,AC (ao rfl),?_⟩) | (apply AR;refine ⟨_,BR (ao rfl) rfl (Ad rfl) rfl rfl,?_⟩) | (apply Aj;refine ⟨_,Be (ao rfl) (Ad rfl) rfl (Ad rfl) rfl,?_⟩) | (apply BN;refine ⟨_,Bu (ao rfl),?_⟩) | (apply BO;refine ⟨_,BF (ao rfl) (ao rfl),?_⟩) | (apply AT;refine ⟨_,Ak (ao rfl) (c1) (by first | ((repeat (first | exact ArgsLe.nil | refine ArgsLe.cons rfl (D.le.refl _) ?_ | refine ArgsLe.cons rfl Ai ?_));done) | fail),?_⟩)) | (refine Cs rfl rfl rfl rfl rfl ?_;first | (apply AR;refine ⟨_,BR (ao rfl) rfl (Ad rfl) rfl rfl,?_⟩) | (apply Aj;refine ⟨_,Be (ao rfl) (Ad rfl) rfl (Ad rfl) rfl,?_⟩) | (apply BE;refine ⟨_,BV rfl (ao rfl) (ao rfl) (by first | (simp only [AG,List.length_cons,List.length_nil];omega) | (simp [AG];done) | (simp [AG];omega)),?_⟩) | (apply BN;refine ⟨_,Bu (ao rfl),?_⟩) | (apply AT;first | refine ⟨_,Ak (ao rfl) (c2) (by first | ((repeat (first | exact ArgsLe.nil | refine ArgsLe.cons rfl (D.le.refl _) ?_ | refine ArgsLe.cons rfl Ai ?_));done) | fail),?_⟩ | refine ⟨_,Ak (ao rfl) (HU y) (by first | ((repeat (first | exact ArgsLe.nil | refine ArgsLe.cons rfl (D.le.refl _) ?_ | refine ArgsLe.cons rfl Ai ?_));done) | fail),?_⟩)) | apply AWl.nil | apply Yn | apply Ar | apply Az | (apply Bi;refine Ct ?_))
    exact Yf
def Vt(r:RTm):List D:=ND r.b r.l r.b' r.l'++BW r.m
def Ta(T:TypeId)(L:List RTm):D:=slD T 12 (L.map Vt)
open Classical in
theorem OK(T:TypeId)(L:List RTm)(hz:RF L)(hn:L.length<=1000000):Abs Tryz.prog 5 [Ta T L] (ex (.bool (decide (CQ L)))):=by
 refine Ab Tryz.func5 λs0=>?_
 rw [Tryz.ntmps5]
 repeat (first | apply Ae | apply AWp.region | (refine By rfl rfl ?_;first | (apply Bc;refine ⟨_,AF (ao rfl),?_⟩) | (apply AH;refine ⟨_,AC (ao rfl),?_⟩) | (apply Ef;refine ⟨_,DH rfl (Ad rfl),?_⟩)) | apply AWl.nil | apply Yn | apply AWp.block)
 refine CA (λmz σ=>∃k,k<=L.length/\mz=L.length-k/\(∀j,j<k->Ul (Bs L j)/\(0<j->0<DQ (Bs L (j-1)).m (Bs L j).m))/\σ=⟨[(0,.d (Ta T L)),(5,.d (Ta T L)),(6,.d (ex (.int .i64 (L.length:Nat)))),(7,.d (ex (.int .i64 (k:Nat))))],[]⟩) ?le ⟨0,by omega,rfl,λj hj=>absurd hj (Nat.not_lt_zero j),rfl⟩ ?round
 case le=>exact AZ (by repeat (first | exact FrLe.nil | refine Yd ?_)) (by repeat (exact HpLe.nil))
 case round=>
  rintro mz _ ⟨k,hk,rfl,hall,rfl⟩
  by_cases hlt:k<L.length
  .obtain ⟨z1,z2,z3,z4⟩:=hz _ (IV hlt)
   have c1:=NG (Bs L k).b (Bs L k).l (Bs L k).b' (Bs L k).l' z1 z2 z3 z4
   by_cases hq:Lz (Bs L k).b (Bs L k).l (Bs L k).b' (Bs L k).l'
   .rw [decide_eq_true hq] at c1
    obtain ⟨q,q1,q2,q3,q4⟩:=id hq
    have c2:=Si q
    have hcc:PY q=ND (Bs L k).b (Bs L k).l (Bs L k).b' (Bs L k).l':=by rw [q1,q2,q3,q4];rfl
    rw [hcc] at c2
    by_cases hz0:q=0
    .have hs:=Co.2 hz0
     have hno:¬CQ L:=λh=>(h k hlt).1.2.1 (by rw [q2,hz0];exact AU)
     rw [decide_eq_false hno]
     repeat (first | apply Ae | apply AWp.region | (apply EG;refine Al ?_) | (apply EF;refine Sf ?_) | (refine By rfl rfl ?_;first | (apply Bc;refine ⟨_,AF (ao rfl),?_⟩) | (apply AH;refine ⟨_,AC (ao rfl),?_⟩) | (apply AR;first | refine ⟨_,BR (ao rfl) rfl (Ad rfl) rfl rfl,?_⟩ | refine ⟨_,Ce (ao rfl) (Ad rfl) rfl rfl,?_⟩) | (apply Aj;refine ⟨_,Be (ao rfl) (Ad rfl) rfl (Ad rfl) rfl,?_⟩) | (apply Bo;refine ⟨_,BA rfl (ao rfl) (Ad rfl) (Ad rfl) rfl (by first | omega | (simp;omega)),?_⟩) | (apply BE;refine ⟨_,BV rfl (ao rfl) (ao rfl) (by first | (simp only [AG,List.length_cons,List.length_nil];omega) | (simp [AG];done) | (simp [AG];omega)),?_⟩) | (apply BN;refine ⟨_,Bu (ao rfl),?_⟩) | (apply BO;first | refine ⟨_,Cb (ao rfl) (ao rfl),?_⟩ | refine ⟨_,BF (ao rfl) (ao rfl),?_⟩) | (apply AT;refine ⟨_,Ak (ao rfl) (c1) (by first | ((repeat (first | exact ArgsLe.nil | refine ArgsLe.cons rfl (D.le.refl _) ?_ | refine ArgsLe.cons rfl Ai ?_));done) | fail),?_⟩)) | refine DS rfl rfl rfl rfl rfl ?_ | (refine Cs rfl rfl rfl rfl rfl ?_;first | (apply AR;refine ⟨_,BR (ao rfl) rfl (Ad rfl) rfl rfl,?_⟩) | (apply Aj;refine ⟨_,Be (ao rfl) (Ad rfl) rfl (Ad rfl) rfl,?_⟩) | (apply BE;refine ⟨_,BV rfl (ao rfl) (ao rfl) (by first | (simp only [AG,List.length_cons,List.length_nil];omega) | (simp [AG];done) | (simp [AG];omega)),?_⟩) | (apply AT;refine ⟨_,Ak (ao rfl) (c2) (by first | ((repeat (first | exact ArgsLe.nil | refine ArgsLe.cons rfl (D.le.refl _) ?_ | refine ArgsLe.cons rfl Ai ?_));done) | fail),?_⟩)) | apply AWl.nil | apply Yn | apply AWp.block | apply Bg | apply Ar | apply Az | apply Bp | apply Cg | (apply Bi;refine Ct ?_))
     exact Yf
    .have hs:q.num.sign≠0:=λe=>hz0 (Co.1 e)
     by_cases hm:In8 (Bs L k).m 0 65535
     .have htk:Ul (Bs L k):=⟨hq, λe=>by rw [q2] at e; have:=As.1 (by rw [e]; rfl); exact Iz hz0 (by omega), hm⟩
      rcases Nat.eq_zero_or_pos k with h0 | h0
      .subst h0
       repeat (first | apply Ae | apply AWp.region | (apply EG;refine Al ?_) | (apply EF;refine Sf ?_) | (refine By rfl rfl ?_;first | (apply Bc;refine ⟨_,AF (ao rfl),?_⟩) | (apply AH;refine ⟨_,AC (ao rfl),?_⟩) | (apply AR;first | refine ⟨_,BR (ao rfl) rfl (Ad rfl) rfl rfl,?_⟩ | refine ⟨_,Ce (ao rfl) (Ad rfl) rfl rfl,?_⟩) | (apply Aj;refine ⟨_,Be (ao rfl) (Ad rfl) rfl (Ad rfl) rfl,?_⟩) | (apply Bo;refine ⟨_,BA rfl (ao rfl) (Ad rfl) (Ad rfl) rfl (by first | omega | (simp;omega)),?_⟩) | (apply BE;refine ⟨_,BV rfl (ao rfl) (ao rfl) (by first | (simp only [AG,List.length_cons,List.length_nil];omega) | (simp [AG];done) | (simp [AG];omega)),?_⟩) | (apply BN;refine ⟨_,Bu (ao rfl),?_⟩) | (apply BO;refine ⟨_,BF (ao rfl) (ao rfl),?_⟩) | (apply AT;refine ⟨_,Ak (ao rfl) (c1) (by first | ((repeat (first | exact ArgsLe.nil | refine ArgsLe.cons rfl (D.le.refl _) ?_ | refine ArgsLe.cons rfl Ai ?_));done) | fail),?_⟩)) | (refine Cs rfl rfl rfl rfl rfl ?_;first | (apply AR;refine ⟨_,BR (ao rfl) rfl (Ad rfl) rfl rfl,?_⟩) | (apply Aj;refine ⟨_,Be (ao rfl) (Ad rfl) rfl (Ad rfl) rfl,?_⟩) | (apply BE;refine ⟨_,Cc rfl (ao rfl) (ao rfl) (by first | (simp only [AG,List.length_cons,List.length_nil];omega) | (simp [AG];done) | (simp [AG];omega)),?_⟩) | (apply BN;refine ⟨_,Bu (ao rfl),?_⟩) | (apply AT;first | refine ⟨_,Ak (ao rfl) (c2) (by first | ((repeat (first | exact ArgsLe.nil | refine ArgsLe.cons rfl (D.le.refl _) ?_ | refine ArgsLe.cons rfl Ai ?_));done) | fail),?_⟩ | refine ⟨_,Ak (ao rfl) (Dy (Bs L 0).m hm) (by first | ((repeat (first | exact ArgsLe.nil | refine ArgsLe.cons rfl (D.le.refl _) ?_ | refine ArgsLe.cons rfl Ai ?_));done) | fail),?_⟩)) | apply AWl.nil | apply Yn | apply AWp.block | apply Bg | (apply Bi;first | refine Ct ?_ | refine Cf ?_))
       refine Dr [[],[(28,0)],[(29,1)],[],[],[(32,4)],[(31,3),(33,5)],[(34,6)],[(35,7)],[],[(37,9)],[(36,8),(38,10)],[(39,11)],[(30,2),(40,12)]] [[],[0],[0,1],[0,1,2],[0,1,2],[0,1,2,4],[0,1,2,3,4,5],[0,1,2,3,4,5,6],[0,1,2,3,4,5,6,7],[0,1,2],[0,1,2,9],[0,1,2,3,4,5,6,7,8,9,10],[0,1,2,3,4,5,6,7,8,9,10,11],[0,1,2,3,4,5,6,7,8,9,10,11,12]] ?_
       repeat (first | refine ⟨_,rfl,?_⟩ | (apply DI;(refine Xq (AF (ah rfl)) ?_)) | (apply Fb;(refine Xq (Cc rfl (ah rfl) (ah rfl) (by first | (simp only [AG,List.length_cons,List.length_nil];omega) | (simp [AG];done) | (simp [AG];omega))) ?_)) | (apply Gz;(refine Xq (BF (ah rfl) (ah rfl)) ?_)) | (refine ⟨_,JJ rfl rfl rfl,?_⟩;refine ⟨_,rfl,?_⟩))
       repeat (first | apply AWp.region | (refine By rfl rfl ?_;first | (apply Bc;refine ⟨_,AF (ao rfl),?_⟩) | (apply JK;refine ⟨_,Gx (ao rfl) (ao rfl) (by omega),?_⟩)) | apply AWl.nil | apply Yn | apply Bg | apply AE | (apply Bi;refine Cf ?_))
       refine ALoop.next (L.length-1) (by omega) ⟨1,by omega,rfl,λj hj=>by obtain rfl:j=0:=(by omega);exact ⟨htk,λh=>absurd h (Nat.lt_irrefl _)⟩,rfl⟩ ?_
       exact AZ (by repeat (first | exact FrLe.nil | refine Yd ?_)) (by repeat (exact HpLe.nil))
      .by_cases hc:0<DQ (Bs L (k-1)).m (Bs L k).m
       .repeat (first | apply Ae | apply AWp.region | (apply EG; refine Al ?_) | (apply EF; refine Sf ?_) | (refine By rfl rfl ?_; first | (apply Bc; refine ⟨_, AF (ao rfl), ?_⟩) | (apply AH; refine ⟨_, AC (ao rfl), ?_⟩) | (apply AR; first | refine ⟨_, BR (ao rfl) rfl (Ad rfl) rfl rfl, ?_⟩ | refine ⟨_, Ce (ao rfl) (Ad rfl) rfl rfl, ?_⟩) | (apply Aj; refine ⟨_, Be (ao rfl) (Ad rfl) rfl (Ad rfl) rfl, ?_⟩) | (apply Bo; refine ⟨_, BA rfl (ao rfl) (Ad rfl) (Ad rfl) rfl (by first | omega | (simp; omega)), ?_⟩) | (apply BE; refine ⟨_, BV rfl (ao rfl) (ao rfl) (by first | (simp only [AG, List.length_cons, List.length_nil]; omega) | (simp [AG]; done) | (simp [AG]; omega)), ?_⟩) | (apply BN; refine ⟨_, Bu (ao rfl), ?_⟩) | (apply BO; refine ⟨_, BF (ao rfl) (ao rfl), ?_⟩) | (apply AT; refine ⟨_, Ak (ao rfl) (c1) (by first | ((repeat (first | exact ArgsLe.nil | refine ArgsLe.cons rfl (D.le.refl _) ?_ | refine ArgsLe.cons rfl Ai ?_)); done) | fail), ?_⟩)) | (refine Cs rfl rfl rfl rfl rfl ?_; first | (apply AR; refine ⟨_, BR (ao rfl) rfl (Ad rfl) rfl rfl, ?_⟩) | (apply Aj; refine ⟨_, Be (ao rfl) (Ad rfl) rfl (Ad rfl) rfl, ?_⟩) | (apply BE; refine ⟨_, Cc rfl (ao rfl) (ao rfl) (by first | (simp only [AG, List.length_cons, List.length_nil]; omega) | (simp [AG]; done) | (simp [AG]; omega)), ?_⟩) | (apply BN; refine ⟨_, Bu (ao rfl), ?_⟩) | (apply AT; first | refine ⟨_, Ak (ao rfl) (c2) (by first | ((repeat (first | exact ArgsLe.nil | refine ArgsLe.cons rfl (D.le.refl _) ?_ | refine ArgsLe.cons rfl Ai ?_)); done) | fail), ?_⟩ | refine ⟨_, Ak (ao rfl) (Dy (Bs L k).m hm) (by first | ((repeat (first | exact ArgsLe.nil | refine ArgsLe.cons rfl (D.le.refl _) ?_ | refine ArgsLe.cons rfl Ai ?_)); done) | fail), ?_⟩)) | apply AWl.nil | apply Yn | apply AWp.block | apply Bg | (apply Bi; first | refine Ct ?_ | refine Cf ?_))
        refine Dr [[],[(28,0)],[(29,1)],[],[],[(32,4)],[(31,3),(33,5)],[(34,6)],[(35,7)],[],[(37,9)],[(36,8),(38,10)],[(39,11)],[(30,2),(40,12)]] [[],[0],[0,1],[0,1,2],[0,1,2],[0,1,2,4],[0,1,2,3,4,5],[0,1,2,3,4,5,6],[0,1,2,3,4,5,6,7],[0,1,2],[0,1,2,9],[0,1,2,3,4,5,6,7,8,9,10],[0,1,2,3,4,5,6,7,8,9,10,11],[0,1,2,3,4,5,6,7,8,9,10,11,12]] ?_
        repeat (first | refine ⟨_,rfl,?_⟩ | (apply DI;(refine Xq (AF (ah rfl)) ?_)) | (apply Fb;(refine Xq (BV rfl (ah rfl) (ah rfl) (by first | (simp only [AG,List.length_cons,List.length_nil];omega) | (simp [AG];done) | (simp [AG];omega))) ?_)) | (apply Gz;(refine Xq (Cb (ah rfl) (ah rfl)) ?_)) | (apply DI;(refine ⟨_,Bm rfl rfl (AF (ah rfl)),?_⟩;refine ⟨_,rfl,?_⟩)) | (apply Hu;first | (refine ⟨_,Bm rfl rfl (BR (ah rfl) rfl (Ad rfl) rfl rfl),?_⟩;refine ⟨_,rfl,?_⟩) | (refine ⟨_,Bm rfl rfl (Ce (ah rfl) (Ad rfl) rfl rfl),?_⟩;refine ⟨_,rfl,?_⟩)) | (apply DK;first | (refine ⟨_,Bm rfl rfl (CH (ah rfl) (Ad rfl) rfl (Ad rfl) rfl rfl),?_⟩;refine ⟨_,rfl,?_⟩) | (refine ⟨_,Bm rfl rfl (Be (ah rfl) (Ad rfl) rfl (Ad rfl) rfl),?_⟩;refine ⟨_,rfl,?_⟩)) | (apply DJ;(refine ⟨_,Bm rfl rfl (BA rfl (ah rfl) (Ad rfl) (Ad rfl) rfl (by first | omega | (simp;omega))),?_⟩;refine ⟨_,rfl,?_⟩)) | (apply LD;(refine ⟨_,Bm rfl rfl (FA (ah rfl) (ah rfl) (by omega) (by omega)),?_⟩;refine ⟨_,rfl,?_⟩)) | (apply Fb;(refine ⟨_,Bm rfl rfl (Cc rfl (ah rfl) (ah rfl) (by first | (simp only [AG,List.length_cons,List.length_nil];omega) | (simp [AG];done) | (simp [AG];omega))),?_⟩;refine ⟨_,rfl,?_⟩)) | (apply Gg;(refine ⟨_,Bm rfl rfl (Ak (ah rfl) (FO (Bs L (k-1)).m (Bs L k).m) (by first | ((repeat (first | exact ArgsLe.nil | refine ArgsLe.cons rfl (D.le.refl _) ?_ | refine ArgsLe.cons rfl Ai ?_));done) | fail)),?_⟩;refine ⟨_,rfl,?_⟩)))
        repeat (first | apply AWp.region | (refine By rfl rfl ?_;first | (apply Bc;refine ⟨_,AF (ao rfl),?_⟩) | (apply JK;refine ⟨_,Gx (ao rfl) (ao rfl) (by omega),?_⟩)) | apply AWl.nil | apply Yn | apply Bg | apply AE | (apply Bi;refine Cf ?_))
        refine ALoop.next (L.length-(k+1)) (by omega) ⟨k+1,by omega,rfl,λj hj=>?_,rfl⟩ ?_
        .rcases Nat.lt_succ_iff_lt_or_eq.1 hj with h | rfl
         .exact hall j h
         .exact ⟨htk,λ_=>hc⟩
        .exact AZ (by repeat (first | exact FrLe.nil | refine Yd ?_)) (by repeat (exact HpLe.nil))
       .have hno:¬CQ L:=λh=>hc ((h k hlt).2 h0)
        rw [decide_eq_false hno]
        repeat (first | apply Ae | apply AWp.region | (apply EG;refine Al ?_) | (apply EF;refine Sf ?_) | (refine By rfl rfl ?_;first | (apply Bc;refine ⟨_,AF (ao rfl),?_⟩) | (apply AH;refine ⟨_,AC (ao rfl),?_⟩) | (apply AR;first | refine ⟨_,BR (ao rfl) rfl (Ad rfl) rfl rfl,?_⟩ | refine ⟨_,Ce (ao rfl) (Ad rfl) rfl rfl,?_⟩) | (apply Aj;refine ⟨_,Be (ao rfl) (Ad rfl) rfl (Ad rfl) rfl,?_⟩) | (apply Bo;refine ⟨_,BA rfl (ao rfl) (Ad rfl) (Ad rfl) rfl (by first | omega | (simp;omega)),?_⟩) | (apply BE;refine ⟨_,BV rfl (ao rfl) (ao rfl) (by first | (simp only [AG,List.length_cons,List.length_nil];omega) | (simp [AG];done) | (simp [AG];omega)),?_⟩) | (apply BN;refine ⟨_,Bu (ao rfl),?_⟩) | (apply BO;refine ⟨_,BF (ao rfl) (ao rfl),?_⟩) | (apply AT;refine ⟨_,Ak (ao rfl) (c1) (by first | ((repeat (first | exact ArgsLe.nil | refine ArgsLe.cons rfl (D.le.refl _) ?_ | refine ArgsLe.cons rfl Ai ?_));done) | fail),?_⟩)) | (refine Cs rfl rfl rfl rfl rfl ?_;first | (apply AR;refine ⟨_,BR (ao rfl) rfl (Ad rfl) rfl rfl,?_⟩) | (apply Aj;refine ⟨_,Be (ao rfl) (Ad rfl) rfl (Ad rfl) rfl,?_⟩) | (apply BE;refine ⟨_,Cc rfl (ao rfl) (ao rfl) (by first | (simp only [AG,List.length_cons,List.length_nil];omega) | (simp [AG];done) | (simp [AG];omega)),?_⟩) | (apply BN;refine ⟨_,Bu (ao rfl),?_⟩) | (apply AT;first | refine ⟨_,Ak (ao rfl) (c2) (by first | ((repeat (first | exact ArgsLe.nil | refine ArgsLe.cons rfl (D.le.refl _) ?_ | refine ArgsLe.cons rfl Ai ?_));done) | fail),?_⟩ | refine ⟨_,Ak (ao rfl) (Dy (Bs L k).m hm) (by first | ((repeat (first | exact ArgsLe.nil | refine ArgsLe.cons rfl (D.le.refl _) ?_ | refine ArgsLe.cons rfl Ai ?_));done) | fail),?_⟩)) | apply AWl.nil | apply Yn | apply AWp.block | apply Bg | (apply Bi;first | refine Ct ?_ | refine Cf ?_))
        refine Dr [[],[(28,0)],[(29,1)],[],[],[(32,4)],[(31,3),(33,5)],[(34,6)],[(35,7)],[],[(37,9)],[(36,8),(38,10)],[(39,11)],[(30,2),(40,12)]] [[],[0],[0,1],[0,1,2],[0,1,2],[0,1,2,4],[0,1,2,3,4,5],[0,1,2,3,4,5,6],[0,1,2,3,4,5,6,7],[0,1,2],[0,1,2,9],[0,1,2,3,4,5,6,7,8,9,10],[0,1,2,3,4,5,6,7,8,9,10,11],[0,1,2,3,4,5,6,7,8,9,10,11,12]] ?_
        repeat (first | refine ⟨_,rfl,?_⟩ | (apply DI;(refine Xq (AF (ah rfl)) ?_)) | (apply Fb;(refine Xq (BV rfl (ah rfl) (ah rfl) (by first | (simp only [AG,List.length_cons,List.length_nil];omega) | (simp [AG];done) | (simp [AG];omega))) ?_)) | (apply Gz;(refine Xq (Cb (ah rfl) (ah rfl)) ?_)) | (apply DI;(refine ⟨_,Bm rfl rfl (AF (ah rfl)),?_⟩;refine ⟨_,rfl,?_⟩)) | (apply Hu;first | (refine ⟨_,Bm rfl rfl (BR (ah rfl) rfl (Ad rfl) rfl rfl),?_⟩;refine ⟨_,rfl,?_⟩) | (refine ⟨_,Bm rfl rfl (Ce (ah rfl) (Ad rfl) rfl rfl),?_⟩;refine ⟨_,rfl,?_⟩)) | (apply DK;first | (refine ⟨_,Bm rfl rfl (CH (ah rfl) (Ad rfl) rfl (Ad rfl) rfl rfl),?_⟩;refine ⟨_,rfl,?_⟩) | (refine ⟨_,Bm rfl rfl (Be (ah rfl) (Ad rfl) rfl (Ad rfl) rfl),?_⟩;refine ⟨_,rfl,?_⟩)) | (apply DJ;(refine ⟨_,Bm rfl rfl (BA rfl (ah rfl) (Ad rfl) (Ad rfl) rfl (by first | omega | (simp;omega))),?_⟩;refine ⟨_,rfl,?_⟩)) | (apply LD;(refine ⟨_,Bm rfl rfl (FA (ah rfl) (ah rfl) (by omega) (by omega)),?_⟩;refine ⟨_,rfl,?_⟩)) | (apply Fb;(refine ⟨_,Bm rfl rfl (BV rfl (ah rfl) (ah rfl) (by first | (simp only [AG,List.length_cons,List.length_nil];omega) | (simp [AG];done) | (simp [AG];omega))),?_⟩;refine ⟨_,rfl,?_⟩)) | (apply Gg;(refine ⟨_,Bm rfl rfl (Ak (ah rfl) (FO (Bs L (k-1)).m (Bs L k).m) (by first | ((repeat (first | exact ArgsLe.nil | refine ArgsLe.cons rfl (D.le.refl _) ?_ | refine ArgsLe.cons rfl Ai ?_));done) | fail)),?_⟩;refine ⟨_,rfl,?_⟩)))
        repeat (first | apply Ae | apply AWp.region | (refine By rfl rfl ?_;(apply AH;refine ⟨_,AC (ao rfl),?_⟩)) | apply AWl.nil | apply Yn | apply Ar | apply Az | apply Bp | apply Cg | (apply Bi;refine Ct ?_))
        exact Yf
     .have hno:¬CQ L:=λh=>hm (h k hlt).1.2.2
      rw [decide_eq_false hno]
      repeat (first | apply Ae | apply AWp.region | (apply EG;refine Al ?_) | (apply EF;refine Sf ?_) | (refine By rfl rfl ?_;first | (apply Bc;refine ⟨_,AF (ao rfl),?_⟩) | (apply AH;refine ⟨_,AC (ao rfl),?_⟩) | (apply AR;first | refine ⟨_,BR (ao rfl) rfl (Ad rfl) rfl rfl,?_⟩ | refine ⟨_,Ce (ao rfl) (Ad rfl) rfl rfl,?_⟩) | (apply Aj;refine ⟨_,Be (ao rfl) (Ad rfl) rfl (Ad rfl) rfl,?_⟩) | (apply Bo;refine ⟨_,BA rfl (ao rfl) (Ad rfl) (Ad rfl) rfl (by first | omega | (simp;omega)),?_⟩) | (apply BE;refine ⟨_,BV rfl (ao rfl) (ao rfl) (by first | (simp only [AG,List.length_cons,List.length_nil];omega) | (simp [AG];done) | (simp [AG];omega)),?_⟩) | (apply BN;refine ⟨_,Bu (ao rfl),?_⟩) | (apply BO;refine ⟨_,BF (ao rfl) (ao rfl),?_⟩) | (apply AT;refine ⟨_,Ak (ao rfl) (c1) (by first | ((repeat (first | exact ArgsLe.nil | refine ArgsLe.cons rfl (D.le.refl _) ?_ | refine ArgsLe.cons rfl Ai ?_));done) | fail),?_⟩)) | (refine Cs rfl rfl rfl rfl rfl ?_;first | (apply AR;refine ⟨_,BR (ao rfl) rfl (Ad rfl) rfl rfl,?_⟩) | (apply Aj;refine ⟨_,Be (ao rfl) (Ad rfl) rfl (Ad rfl) rfl,?_⟩) | (apply BE;refine ⟨_,Cc rfl (ao rfl) (ao rfl) (by first | (simp only [AG,List.length_cons,List.length_nil];omega) | (simp [AG];done) | (simp [AG];omega)),?_⟩) | (apply BN;refine ⟨_,Bu (ao rfl),?_⟩) | (apply AT;first | refine ⟨_,Ak (ao rfl) (c2) (by first | ((repeat (first | exact ArgsLe.nil | refine ArgsLe.cons rfl (D.le.refl _) ?_ | refine ArgsLe.cons rfl Ai ?_));done) | fail),?_⟩ | refine ⟨_,Ak (ao rfl) (Ie (Bs L k).m hm) (by first | ((repeat (first | exact ArgsLe.nil | refine ArgsLe.cons rfl (D.le.refl _) ?_ | refine ArgsLe.cons rfl Ai ?_));done) | fail),?_⟩)) | apply AWl.nil | apply Yn | apply AWp.block | apply Bg | apply Ar | apply Az | apply Bp | apply Cg | (apply Bi;refine Ct ?_))
      exact Yf
   .rw [decide_eq_false hq] at c1
    have hno:¬CQ L:=λh=>hq (h k hlt).1.1
    rw [decide_eq_false hno]
    repeat (first | apply Ae | apply AWp.region | (apply EG;refine Al ?_) | (apply EF;refine Sf ?_) | (refine By rfl rfl ?_;first | (apply Bc;refine ⟨_,AF (ao rfl),?_⟩) | (apply AH;refine ⟨_,AC (ao rfl),?_⟩) | (apply AR;first | refine ⟨_,BR (ao rfl) rfl (Ad rfl) rfl rfl,?_⟩ | refine ⟨_,Ce (ao rfl) (Ad rfl) rfl rfl,?_⟩) | (apply Aj;refine ⟨_,Be (ao rfl) (Ad rfl) rfl (Ad rfl) rfl,?_⟩) | (apply Bo;refine ⟨_,BA rfl (ao rfl) (Ad rfl) (Ad rfl) rfl (by first | omega | (simp;omega)),?_⟩) | (apply BE;refine ⟨_,BV rfl (ao rfl) (ao rfl) (by first | (simp only [AG,List.length_cons,List.length_nil];omega) | (simp [AG];done) | (simp [AG];omega)),?_⟩) | (apply BN;refine ⟨_,Bu (ao rfl),?_⟩) | (apply BO;refine ⟨_,Cb (ao rfl) (ao rfl),?_⟩) | (apply AT;refine ⟨_,Ak (ao rfl) (c1) (by first | ((repeat (first | exact ArgsLe.nil | refine ArgsLe.cons rfl (D.le.refl _) ?_ | refine ArgsLe.cons rfl Ai ?_));done) | fail),?_⟩)) | refine DS rfl rfl rfl rfl rfl ?_ | apply AWl.nil | apply Yn | apply AWp.block | apply Bg | apply Ar | apply Az | apply Bp | apply Cg | (apply Bi;refine Ct ?_))
    exact Yf
  .obtain rfl:k=L.length:=by omega
   have hyes:CQ L:=hall
   rw [decide_eq_true hyes]
   repeat (first | apply Ae | apply AWp.region | (refine By rfl rfl ?_;first | (apply AH;refine ⟨_,AC (ao rfl),?_⟩) | (apply BE;refine ⟨_,Cc rfl (ao rfl) (ao rfl) (by first | (simp only [AG,List.length_cons,List.length_nil];omega) | (simp [AG];done) | (simp [AG];omega)),?_⟩)) | apply AWl.nil | apply Yn | apply BT | apply Ar | apply BC | apply BD | apply BL | (apply Bi;refine Cf ?_))
   exact Yf
open Classical in
theorem MQ(T:TypeId)(L:List RTm)(hz:RF L)(hn:L.length<=1000000):Abs Tryz.prog 6 [Ta T L] (ex (.bool (decide (CQ L)))):=by
 refine Ab Tryz.func6 λs0=>?_
 rw [Tryz.ntmps6]
 repeat (first | apply Ae | apply AWp.region | (refine By rfl rfl ?_;(apply AH;refine ⟨_,AC (ao rfl),?_⟩)) | apply AWl.nil | apply Yn | apply AWp.block)
 refine CA (λmz σ=>∃k,k<=L.length/\mz=L.length-k/\(∀j,j<k->Ul (Bs L j)/\(0<j->0<DQ (Bs L (j-1)).m (Bs L j).m))/\σ=⟨[(0,.d (Ta T L)),(3,.d (ex (.int .i64 (k:Nat))))],[]⟩) ?le ⟨0,by omega,rfl,λj hj=>absurd hj (Nat.not_lt_zero j),rfl⟩ ?round
 case le=>exact AZ (by repeat (first | exact FrLe.nil | refine Yd ?_)) (by repeat (exact HpLe.nil))
 case round=>
  rintro mz _ ⟨k,hk,rfl,hall,rfl⟩
  by_cases hlt:k<L.length
  .obtain ⟨z1,z2,z3,z4⟩:=hz _ (IV hlt)
   have c1:=ME (Bs L k).b (Bs L k).l (Bs L k).b' (Bs L k).l' z1 z2 z3 z4
   by_cases hq:Lz (Bs L k).b (Bs L k).l (Bs L k).b' (Bs L k).l'
   .rw [decide_eq_true hq] at c1
    obtain ⟨q,q1,q2,q3,q4⟩:=id hq
    have c2:=QU q
    have hcc:PY q=ND (Bs L k).b (Bs L k).l (Bs L k).b' (Bs L k).l':=by rw [q1,q2,q3,q4];rfl
    rw [hcc] at c2
    by_cases hz0:q=0
    .have hs:=Co.2 hz0
     have hno:¬CQ L:=λh=>(h k hlt).1.2.1 (by rw [q2,hz0];exact AU)
     rw [decide_eq_false hno]
     repeat (first | apply Ae | apply AWp.region | (refine By rfl rfl ?_;first | (apply Bc;refine ⟨_,AF (ao rfl),?_⟩) | (apply AH;refine ⟨_,AC (ao rfl),?_⟩) | (apply AR;refine ⟨_,DR (ao rfl) (Ad rfl) rfl rfl,?_⟩) | (apply Aj;refine ⟨_,CH (ao rfl) (Ad rfl) rfl (Ad rfl) rfl rfl,?_⟩) | (apply Bo;refine ⟨_,BA rfl (ao rfl) (Ad rfl) (Ad rfl) rfl (by first | omega | (simp;omega)),?_⟩) | (apply Ef;refine ⟨_,DH rfl (Ad rfl),?_⟩) | (apply BE;refine ⟨_,BV rfl (ao rfl) (ao rfl) (by first | (simp only [AG,List.length_cons,List.length_nil];omega) | (simp [AG];done) | (simp [AG];omega)),?_⟩) | (apply BN;refine ⟨_,Bu (ao rfl),?_⟩) | (apply BO;first | refine ⟨_,Cb (ao rfl) (ao rfl),?_⟩ | refine ⟨_,BF (ao rfl) (ao rfl),?_⟩) | (apply AT;refine ⟨_,Ak (ao rfl) (c1) (by first | ((repeat (first | exact ArgsLe.nil | refine ArgsLe.cons rfl (D.le.refl _) ?_ | refine ArgsLe.cons rfl Ai ?_));done) | fail),?_⟩)) | refine DS rfl rfl rfl rfl rfl ?_ | (refine Cs rfl rfl rfl rfl rfl ?_;first | (apply Bc;refine ⟨_,AF (ao rfl),?_⟩) | (apply AR;refine ⟨_,DR (ao rfl) (Ad rfl) rfl rfl,?_⟩) | (apply Aj;refine ⟨_,CH (ao rfl) (Ad rfl) rfl (Ad rfl) rfl rfl,?_⟩) | (apply Bo;refine ⟨_,BA rfl (ao rfl) (Ad rfl) (Ad rfl) rfl (by first | omega | (simp;omega)),?_⟩) | (apply BE;refine ⟨_,BV rfl (ao rfl) (ao rfl) (by first | (simp only [AG,List.length_cons,List.length_nil];omega) | (simp [AG];done) | (simp [AG];omega)),?_⟩) | (apply AT;refine ⟨_,Ak (ao rfl) (c2) (by first | ((repeat (first | exact ArgsLe.nil | refine ArgsLe.cons rfl (D.le.refl _) ?_ | refine ArgsLe.cons rfl Ai ?_));done) | fail),?_⟩)) | apply AWl.nil | apply Yn | apply AWp.block | apply Bg | apply Ar | apply Az | apply Bp | apply Cg | (apply Bi;refine Ct ?_))
     exact Yf
    .have hs:q.num.sign≠0:=λe=>hz0 (Co.1 e)
     by_cases hm:In8 (Bs L k).m 0 65535
     .have htk:Ul (Bs L k):=⟨hq, λe=>by rw [q2] at e; have:=As.1 (by rw [e]; rfl); exact Iz hz0 (by omega), hm⟩
      rcases Nat.eq_zero_or_pos k with h0 | h0
      .subst h0
       repeat (first | apply Ae | apply AWp.region | (refine By rfl rfl ?_;first | (apply Bc;refine ⟨_,AF (ao rfl),?_⟩) | (apply AR;refine ⟨_,DR (ao rfl) (Ad rfl) rfl rfl,?_⟩) | (apply Aj;refine ⟨_,CH (ao rfl) (Ad rfl) rfl (Ad rfl) rfl rfl,?_⟩) | (apply Bo;refine ⟨_,BA rfl (ao rfl) (Ad rfl) (Ad rfl) rfl (by first | omega | (simp;omega)),?_⟩) | (apply Ef;refine ⟨_,DH rfl (Ad rfl),?_⟩) | (apply BE;refine ⟨_,BV rfl (ao rfl) (ao rfl) (by first | (simp only [AG,List.length_cons,List.length_nil];omega) | (simp [AG];done) | (simp [AG];omega)),?_⟩) | (apply BN;refine ⟨_,Bu (ao rfl),?_⟩) | (apply BO;refine ⟨_,BF (ao rfl) (ao rfl),?_⟩) | (apply AT;refine ⟨_,Ak (ao rfl) (c1) (by first | ((repeat (first | exact ArgsLe.nil | refine ArgsLe.cons rfl (D.le.refl _) ?_ | refine ArgsLe.cons rfl Ai ?_));done) | fail),?_⟩)) | (refine Cs rfl rfl rfl rfl rfl ?_;first | (apply Bc;refine ⟨_,AF (ao rfl),?_⟩) | (apply AR;first | refine ⟨_,Ce (ao rfl) (Ad rfl) rfl rfl,?_⟩ | refine ⟨_,DR (ao rfl) (Ad rfl) rfl rfl,?_⟩) | (apply Aj;refine ⟨_,CH (ao rfl) (Ad rfl) rfl (Ad rfl) rfl rfl,?_⟩) | (apply Bo;refine ⟨_,BA rfl (ao rfl) (Ad rfl) (Ad rfl) rfl (by first | omega | (simp;omega)),?_⟩) | (apply BE;refine ⟨_,Cc rfl (ao rfl) (ao rfl) (by first | (simp only [AG,List.length_cons,List.length_nil];omega) | (simp [AG];done) | (simp [AG];omega)),?_⟩) | (apply BN;refine ⟨_,Bu (ao rfl),?_⟩) | (apply AT;first | refine ⟨_,Ak (ao rfl) (c2) (by first | ((repeat (first | exact ArgsLe.nil | refine ArgsLe.cons rfl (D.le.refl _) ?_ | refine ArgsLe.cons rfl Ai ?_));done) | fail),?_⟩ | refine ⟨_,Ak (ao rfl) (Em (Bs L 0).m hm) (by first | ((repeat (first | exact ArgsLe.nil | refine ArgsLe.cons rfl (D.le.refl _) ?_ | refine ArgsLe.cons rfl Ai ?_));done) | fail),?_⟩)) | apply AWl.nil | apply Yn | apply AWp.block | apply Bg | (apply Bi;first | refine Ct ?_ | refine Cf ?_))
       refine Dr [[],[(35,0)],[(36,1)],[],[],[(39,4)],[(38,3),(40,5)],[(41,6)],[(42,7)],[],[],[(44,9),(45,10)],[(46,11)],[(47,12)],[(43,8),(48,13)],[(49,14)],[(37,2),(50,15)]] [[],[0],[0,1],[0,1,2],[0,1,2],[0,1,2,4],[0,1,2,3,4,5],[0,1,2,3,4,5,6],[0,1,2,3,4,5,6,7],[0,1,2],[0,1,2],[0,1,2,9,10],[0,1,2,9,10,11],[0,1,2,9,10,11,12],[0,1,2,3,4,5,6,7,8,9,10,11,12,13],[0,1,2,3,4,5,6,7,8,9,10,11,12,13,14],[0,1,2,3,4,5,6,7,8,9,10,11,12,13,14,15]] ?_
       repeat (first | refine ⟨_,rfl,?_⟩ | (apply DI;(refine Xq (AF (ah rfl)) ?_)) | (apply Fb;(refine Xq (Cc rfl (ah rfl) (ah rfl) (by first | (simp only [AG,List.length_cons,List.length_nil];omega) | (simp [AG];done) | (simp [AG];omega))) ?_)) | (apply Gz;(refine Xq (BF (ah rfl) (ah rfl)) ?_)) | (refine ⟨_,JJ rfl rfl rfl,?_⟩;refine ⟨_,rfl,?_⟩))
       repeat (first | apply AWp.region | (refine By rfl rfl ?_;first | (apply Bc;refine ⟨_,AF (ao rfl),?_⟩) | (apply AH;refine ⟨_,AC (ao rfl),?_⟩) | (apply JK;refine ⟨_,Gx (ao rfl) (ao rfl) (by omega),?_⟩)) | apply AWl.nil | apply Yn | apply Bg | apply AE | (apply Bi;refine Cf ?_))
       refine ALoop.next (L.length-1) (by omega) ⟨1,by omega,rfl,λj hj=>by obtain rfl:j=0:=(by omega);exact ⟨htk,λh=>absurd h (Nat.lt_irrefl _)⟩,rfl⟩ ?_
       exact AZ (by repeat (first | exact FrLe.nil | refine Yd ?_)) (by repeat (exact HpLe.nil))
      .by_cases hc:0<DQ (Bs L (k-1)).m (Bs L k).m
       .repeat (first | apply Ae | apply AWp.region | (refine By rfl rfl ?_; first | (apply Bc; refine ⟨_, AF (ao rfl), ?_⟩) | (apply AR; refine ⟨_, DR (ao rfl) (Ad rfl) rfl rfl, ?_⟩) | (apply Aj; refine ⟨_, CH (ao rfl) (Ad rfl) rfl (Ad rfl) rfl rfl, ?_⟩) | (apply Bo; refine ⟨_, BA rfl (ao rfl) (Ad rfl) (Ad rfl) rfl (by first | omega | (simp; omega)), ?_⟩) | (apply Ef; refine ⟨_, DH rfl (Ad rfl), ?_⟩) | (apply BE; refine ⟨_, BV rfl (ao rfl) (ao rfl) (by first | (simp only [AG, List.length_cons, List.length_nil]; omega) | (simp [AG]; done) | (simp [AG]; omega)), ?_⟩) | (apply BN; refine ⟨_, Bu (ao rfl), ?_⟩) | (apply BO; refine ⟨_, BF (ao rfl) (ao rfl), ?_⟩) | (apply AT; refine ⟨_, Ak (ao rfl) (c1) (by first | ((repeat (first | exact ArgsLe.nil | refine ArgsLe.cons rfl (D.le.refl _) ?_ | refine ArgsLe.cons rfl Ai ?_)); done) | fail), ?_⟩)) | (refine Cs rfl rfl rfl rfl rfl ?_; first | (apply Bc; refine ⟨_, AF (ao rfl), ?_⟩) | (apply AR; first | refine ⟨_, Ce (ao rfl) (Ad rfl) rfl rfl, ?_⟩ | refine ⟨_, DR (ao rfl) (Ad rfl) rfl rfl, ?_⟩) | (apply Aj; refine ⟨_, CH (ao rfl) (Ad rfl) rfl (Ad rfl) rfl rfl, ?_⟩) | (apply Bo; refine ⟨_, BA rfl (ao rfl) (Ad rfl) (Ad rfl) rfl (by first | omega | (simp; omega)), ?_⟩) | (apply BE; refine ⟨_, Cc rfl (ao rfl) (ao rfl) (by first | (simp only [AG, List.length_cons, List.length_nil]; omega) | (simp [AG]; done) | (simp [AG]; omega)), ?_⟩) | (apply BN; refine ⟨_, Bu (ao rfl), ?_⟩) | (apply AT; first | refine ⟨_, Ak (ao rfl) (c2) (by first | ((repeat (first | exact ArgsLe.nil | refine ArgsLe.cons rfl (D.le.refl _) ?_ | refine ArgsLe.cons rfl Ai ?_)); done) | fail), ?_⟩ | refine ⟨_, Ak (ao rfl) (Em (Bs L k).m hm) (by first | ((repeat (first | exact ArgsLe.nil | refine ArgsLe.cons rfl (D.le.refl _) ?_ | refine ArgsLe.cons rfl Ai ?_)); done) | fail), ?_⟩)) | apply AWl.nil | apply Yn | apply AWp.block | apply Bg | (apply Bi; first | refine Ct ?_ | refine Cf ?_))
        refine Dr [[],[(35,0)],[(36,1)],[],[],[(39,4)],[(38,3),(40,5)],[(41,6)],[(42,7)],[],[],[(44,9),(45,10)],[(46,11)],[(47,12)],[(43,8),(48,13)],[(49,14)],[(37,2),(50,15)]] [[],[0],[0,1],[0,1,2],[0,1,2],[0,1,2,4],[0,1,2,3,4,5],[0,1,2,3,4,5,6],[0,1,2,3,4,5,6,7],[0,1,2],[0,1,2],[0,1,2,9,10],[0,1,2,9,10,11],[0,1,2,9,10,11,12],[0,1,2,3,4,5,6,7,8,9,10,11,12,13],[0,1,2,3,4,5,6,7,8,9,10,11,12,13,14],[0,1,2,3,4,5,6,7,8,9,10,11,12,13,14,15]] ?_
        repeat (first | refine ⟨_,rfl,?_⟩ | (apply DI;(refine Xq (AF (ah rfl)) ?_)) | (apply Fb;(refine Xq (BV rfl (ah rfl) (ah rfl) (by first | (simp only [AG,List.length_cons,List.length_nil];omega) | (simp [AG];done) | (simp [AG];omega))) ?_)) | (apply Gz;(refine Xq (Cb (ah rfl) (ah rfl)) ?_)) | (apply DI;(refine ⟨_,Bm rfl rfl (AF (ah rfl)),?_⟩;refine ⟨_,rfl,?_⟩)) | (apply Hu;(refine ⟨_,Bm rfl rfl (Ce (ah rfl) (Ad rfl) rfl rfl),?_⟩;refine ⟨_,rfl,?_⟩)) | (apply DK;(refine ⟨_,Bm rfl rfl (CH (ah rfl) (Ad rfl) rfl (Ad rfl) rfl rfl),?_⟩;refine ⟨_,rfl,?_⟩)) | (apply DJ;(refine ⟨_,Bm rfl rfl (BA rfl (ah rfl) (Ad rfl) (Ad rfl) rfl (by first | omega | (simp;omega))),?_⟩;refine ⟨_,rfl,?_⟩)) | (apply LD;(refine ⟨_,Bm rfl rfl (FA (ah rfl) (ah rfl) (by omega) (by omega)),?_⟩;refine ⟨_,rfl,?_⟩)) | (apply Fb;(refine ⟨_,Bm rfl rfl (Cc rfl (ah rfl) (ah rfl) (by first | (simp only [AG,List.length_cons,List.length_nil];omega) | (simp [AG];done) | (simp [AG];omega))),?_⟩;refine ⟨_,rfl,?_⟩)) | (apply Gg;(refine ⟨_,Bm rfl rfl (Ak (ah rfl) (Dk (Bs L (k-1)).m (Bs L k).m) (by first | ((repeat (first | exact ArgsLe.nil | refine ArgsLe.cons rfl (D.le.refl _) ?_ | refine ArgsLe.cons rfl Ai ?_));done) | fail)),?_⟩;refine ⟨_,rfl,?_⟩)))
        repeat (first | apply AWp.region | (refine By rfl rfl ?_;first | (apply Bc;refine ⟨_,AF (ao rfl),?_⟩) | (apply AH;refine ⟨_,AC (ao rfl),?_⟩) | (apply JK;refine ⟨_,Gx (ao rfl) (ao rfl) (by omega),?_⟩)) | apply AWl.nil | apply Yn | apply Bg | apply AE | (apply Bi;refine Cf ?_))
        refine ALoop.next (L.length-(k+1)) (by omega) ⟨k+1,by omega,rfl,λj hj=>?_,rfl⟩ ?_
        .rcases Nat.lt_succ_iff_lt_or_eq.1 hj with h | rfl
         .exact hall j h
         .exact ⟨htk,λ_=>hc⟩
        .exact AZ (by repeat (first | exact FrLe.nil | refine Yd ?_)) (by repeat (exact HpLe.nil))
       .have hno:¬CQ L:=λh=>hc ((h k hlt).2 h0)
        rw [decide_eq_false hno]
        repeat (first | apply Ae | apply AWp.region | (refine By rfl rfl ?_;first | (apply Bc;refine ⟨_,AF (ao rfl),?_⟩) | (apply AR;refine ⟨_,DR (ao rfl) (Ad rfl) rfl rfl,?_⟩) | (apply Aj;refine ⟨_,CH (ao rfl) (Ad rfl) rfl (Ad rfl) rfl rfl,?_⟩) | (apply Bo;refine ⟨_,BA rfl (ao rfl) (Ad rfl) (Ad rfl) rfl (by first | omega | (simp;omega)),?_⟩) | (apply Ef;refine ⟨_,DH rfl (Ad rfl),?_⟩) | (apply BE;refine ⟨_,BV rfl (ao rfl) (ao rfl) (by first | (simp only [AG,List.length_cons,List.length_nil];omega) | (simp [AG];done) | (simp [AG];omega)),?_⟩) | (apply BN;refine ⟨_,Bu (ao rfl),?_⟩) | (apply BO;refine ⟨_,BF (ao rfl) (ao rfl),?_⟩) | (apply AT;refine ⟨_,Ak (ao rfl) (c1) (by first | ((repeat (first | exact ArgsLe.nil | refine ArgsLe.cons rfl (D.le.refl _) ?_ | refine ArgsLe.cons rfl Ai ?_));done) | fail),?_⟩)) | (refine Cs rfl rfl rfl rfl rfl ?_;first | (apply Bc;refine ⟨_,AF (ao rfl),?_⟩) | (apply AR;first | refine ⟨_,Ce (ao rfl) (Ad rfl) rfl rfl,?_⟩ | refine ⟨_,DR (ao rfl) (Ad rfl) rfl rfl,?_⟩) | (apply Aj;refine ⟨_,CH (ao rfl) (Ad rfl) rfl (Ad rfl) rfl rfl,?_⟩) | (apply Bo;refine ⟨_,BA rfl (ao rfl) (Ad rfl) (Ad rfl) rfl (by first | omega | (simp;omega)),?_⟩) | (apply BE;refine ⟨_,Cc rfl (ao rfl) (ao rfl) (by first | (simp only [AG,List.length_cons,List.length_nil];omega) | (simp [AG];done) | (simp [AG];omega)),?_⟩) | (apply BN;refine ⟨_,Bu (ao rfl),?_⟩) | (apply AT;first | refine ⟨_,Ak (ao rfl) (c2) (by first | ((repeat (first | exact ArgsLe.nil | refine ArgsLe.cons rfl (D.le.refl _) ?_ | refine ArgsLe.cons rfl Ai ?_));done) | fail),?_⟩ | refine ⟨_,Ak (ao rfl) (Em (Bs L k).m hm) (by first | ((repeat (first | exact ArgsLe.nil | refine ArgsLe.cons rfl (D.le.refl _) ?_ | refine ArgsLe.cons rfl Ai ?_));done) | fail),?_⟩)) | apply AWl.nil | apply Yn | apply AWp.block | apply Bg | (apply Bi;first | refine Ct ?_ | refine Cf ?_))
        refine Dr [[],[(35,0)],[(36,1)],[],[],[(39,4)],[(38,3),(40,5)],[(41,6)],[(42,7)],[],[],[(44,9),(45,10)],[(46,11)],[(47,12)],[(43,8),(48,13)],[(49,14)],[(37,2),(50,15)]] [[],[0],[0,1],[0,1,2],[0,1,2],[0,1,2,4],[0,1,2,3,4,5],[0,1,2,3,4,5,6],[0,1,2,3,4,5,6,7],[0,1,2],[0,1,2],[0,1,2,9,10],[0,1,2,9,10,11],[0,1,2,9,10,11,12],[0,1,2,3,4,5,6,7,8,9,10,11,12,13],[0,1,2,3,4,5,6,7,8,9,10,11,12,13,14],[0,1,2,3,4,5,6,7,8,9,10,11,12,13,14,15]] ?_
        repeat (first | refine ⟨_,rfl,?_⟩ | (apply DI;(refine Xq (AF (ah rfl)) ?_)) | (apply Fb;(refine Xq (BV rfl (ah rfl) (ah rfl) (by first | (simp only [AG,List.length_cons,List.length_nil];omega) | (simp [AG];done) | (simp [AG];omega))) ?_)) | (apply Gz;(refine Xq (Cb (ah rfl) (ah rfl)) ?_)) | (apply DI;(refine ⟨_,Bm rfl rfl (AF (ah rfl)),?_⟩;refine ⟨_,rfl,?_⟩)) | (apply Hu;(refine ⟨_,Bm rfl rfl (Ce (ah rfl) (Ad rfl) rfl rfl),?_⟩;refine ⟨_,rfl,?_⟩)) | (apply DK;(refine ⟨_,Bm rfl rfl (CH (ah rfl) (Ad rfl) rfl (Ad rfl) rfl rfl),?_⟩;refine ⟨_,rfl,?_⟩)) | (apply DJ;(refine ⟨_,Bm rfl rfl (BA rfl (ah rfl) (Ad rfl) (Ad rfl) rfl (by first | omega | (simp;omega))),?_⟩;refine ⟨_,rfl,?_⟩)) | (apply LD;(refine ⟨_,Bm rfl rfl (FA (ah rfl) (ah rfl) (by omega) (by omega)),?_⟩;refine ⟨_,rfl,?_⟩)) | (apply Fb;(refine ⟨_,Bm rfl rfl (BV rfl (ah rfl) (ah rfl) (by first | (simp only [AG,List.length_cons,List.length_nil];omega) | (simp [AG];done) | (simp [AG];omega))),?_⟩;refine ⟨_,rfl,?_⟩)) | (apply Gg;(refine ⟨_,Bm rfl rfl (Ak (ah rfl) (Dk (Bs L (k-1)).m (Bs L k).m) (by first | ((repeat (first | exact ArgsLe.nil | refine ArgsLe.cons rfl (D.le.refl _) ?_ | refine ArgsLe.cons rfl Ai ?_));done) | fail)),?_⟩;refine ⟨_,rfl,?_⟩)))
        repeat (first | apply Ae | apply AWp.region | (refine By rfl rfl ?_;(apply AH;refine ⟨_,AC (ao rfl),?_⟩)) | apply AWl.nil | apply Yn | apply Ar | apply Az | apply Bp | apply Cg | (apply Bi;refine Ct ?_))
        exact Yf
     .have hno:¬CQ L:=λh=>hm (h k hlt).1.2.2
      rw [decide_eq_false hno]
      repeat (first | apply Ae | apply AWp.region | (refine By rfl rfl ?_;first | (apply Bc;refine ⟨_,AF (ao rfl),?_⟩) | (apply AH;refine ⟨_,AC (ao rfl),?_⟩) | (apply AR;refine ⟨_,DR (ao rfl) (Ad rfl) rfl rfl,?_⟩) | (apply Aj;refine ⟨_,CH (ao rfl) (Ad rfl) rfl (Ad rfl) rfl rfl,?_⟩) | (apply Bo;refine ⟨_,BA rfl (ao rfl) (Ad rfl) (Ad rfl) rfl (by first | omega | (simp;omega)),?_⟩) | (apply Ef;refine ⟨_,DH rfl (Ad rfl),?_⟩) | (apply BE;refine ⟨_,BV rfl (ao rfl) (ao rfl) (by first | (simp only [AG,List.length_cons,List.length_nil];omega) | (simp [AG];done) | (simp [AG];omega)),?_⟩) | (apply BN;refine ⟨_,Bu (ao rfl),?_⟩) | (apply BO;refine ⟨_,BF (ao rfl) (ao rfl),?_⟩) | (apply AT;refine ⟨_,Ak (ao rfl) (c1) (by first | ((repeat (first | exact ArgsLe.nil | refine ArgsLe.cons rfl (D.le.refl _) ?_ | refine ArgsLe.cons rfl Ai ?_));done) | fail),?_⟩)) | (refine Cs rfl rfl rfl rfl rfl ?_;first | (apply Bc;refine ⟨_,AF (ao rfl),?_⟩) | (apply AR;first | refine ⟨_,Ce (ao rfl) (Ad rfl) rfl rfl,?_⟩ | refine ⟨_,DR (ao rfl) (Ad rfl) rfl rfl,?_⟩) | (apply Aj;refine ⟨_,CH (ao rfl) (Ad rfl) rfl (Ad rfl) rfl rfl,?_⟩) | (apply Bo;refine ⟨_,BA rfl (ao rfl) (Ad rfl) (Ad rfl) rfl (by first | omega | (simp;omega)),?_⟩) | (apply BE;refine ⟨_,Cc rfl (ao rfl) (ao rfl) (by first | (simp only [AG,List.length_cons,List.length_nil];omega) | (simp [AG];done) | (simp [AG];omega)),?_⟩) | (apply BN;refine ⟨_,Bu (ao rfl),?_⟩) | (apply AT;first | refine ⟨_,Ak (ao rfl) (c2) (by first | ((repeat (first | exact ArgsLe.nil | refine ArgsLe.cons rfl (D.le.refl _) ?_ | refine ArgsLe.cons rfl Ai ?_));done) | fail),?_⟩ | refine ⟨_,Ak (ao rfl) (Lm (Bs L k).m hm) (by first | ((repeat (first | exact ArgsLe.nil | refine ArgsLe.cons rfl (D.le.refl _) ?_ | refine ArgsLe.cons rfl Ai ?_));done) | fail),?_⟩)) | apply AWl.nil | apply Yn | apply AWp.block | apply Bg | apply Ar | apply Az | apply Bp | apply Cg | (apply Bi;refine Ct ?_))
      exact Yf
   .rw [decide_eq_false hq] at c1
    have hno:¬CQ L:=λh=>hq (h k hlt).1.1
    rw [decide_eq_false hno]
    repeat (first | apply Ae | apply AWp.region | (refine By rfl rfl ?_;first | (apply Bc;refine ⟨_,AF (ao rfl),?_⟩) | (apply AH;refine ⟨_,AC (ao rfl),?_⟩) | (apply AR;refine ⟨_,DR (ao rfl) (Ad rfl) rfl rfl,?_⟩) | (apply Aj;refine ⟨_,CH (ao rfl) (Ad rfl) rfl (Ad rfl) rfl rfl,?_⟩) | (apply Bo;refine ⟨_,BA rfl (ao rfl) (Ad rfl) (Ad rfl) rfl (by first | omega | (simp;omega)),?_⟩) | (apply Ef;refine ⟨_,DH rfl (Ad rfl),?_⟩) | (apply BE;refine ⟨_,BV rfl (ao rfl) (ao rfl) (by first | (simp only [AG,List.length_cons,List.length_nil];omega) | (simp [AG];done) | (simp [AG];omega)),?_⟩) | (apply BN;refine ⟨_,Bu (ao rfl),?_⟩) | (apply BO;refine ⟨_,Cb (ao rfl) (ao rfl),?_⟩) | (apply AT;refine ⟨_,Ak (ao rfl) (c1) (by first | ((repeat (first | exact ArgsLe.nil | refine ArgsLe.cons rfl (D.le.refl _) ?_ | refine ArgsLe.cons rfl Ai ?_));done) | fail),?_⟩)) | refine DS rfl rfl rfl rfl rfl ?_ | apply AWl.nil | apply Yn | apply AWp.block | apply Bg | apply Ar | apply Az | apply Bp | apply Cg | (apply Bi;refine Ct ?_))
    exact Yf
  .obtain rfl:k=L.length:=by omega
   have hyes:CQ L:=hall
   rw [decide_eq_true hyes]
   repeat (first | apply Ae | apply AWp.region | (refine By rfl rfl ?_;first | (apply Bc;refine ⟨_,AF (ao rfl),?_⟩) | (apply AH;refine ⟨_,AC (ao rfl),?_⟩) | (apply Ef;refine ⟨_,DH rfl (Ad rfl),?_⟩) | (apply BE;refine ⟨_,Cc rfl (ao rfl) (ao rfl) (by first | (simp only [AG,List.length_cons,List.length_nil];omega) | (simp [AG];done) | (simp [AG];omega)),?_⟩)) | apply AWl.nil | apply Yn | apply BT | apply Ar | apply BC | apply BD | apply BL | (apply Bi;refine Cf ?_))
   exact Yf
open Classical in
theorem NH(T:TypeId)(L:List RTm)(hL:∀r∈L,AI r.l/\AI r.l'):Abs Tryz.prog 3 [Ta T L] (ex (.bool true)):=by
 by_cases h20:20<L.length
 .refine Ab Tryz.func3 λs0=>?_
  rw [Tryz.ntmps3]
  refine Y1<|Wa<|Y0<|Y1 ?_;refine Wq (Aq (IT)) ?_;refine Wa<|Y0<|Ae<|Y1<|Wm ?_;refine Wq Cn ?_;refine Y0<|Cf<|Ys<|Ae<|Y1<|Wm ?_;refine Wq Bb ?_;refine Wq AL ?_;refine Y0<|Ct<|Y1<|Wm<|Wa<|Y0<|Ar<|Az ?_
  exact Yf
 .refine Ab Tryz.func3 λs0=>?_
  rw [Tryz.ntmps3]
  refine Y1<|Wa<|Y0<|Y1 ?_;refine Wq (Aq (IT)) ?_;refine Wa<|Y0<|Ae<|Y1<|Wm ?_;refine Wq Cn ?_;refine Y0<|Cf<|Ys<|Ae<|Y1<|Wm ?_;refine Wq Bb ?_;refine Wq AA ?_;refine Y0<|Cf<|Ys<|Ae<|Y1<|Wa<|Y0<|AWp.block ?_
  refine CA (λmz σ=>∃k,k<=L.length/\mz=L.length-k/\(∀j,j<k->(Bs L j).l.length<=6/\(Bs L j).l'.length<=6)/\σ=⟨[(0,.d (Ta T L)),(3,.d (ex (.bool true))),(4,.d (ex (.int .i64 (k:Nat))))],[]⟩) ?le ⟨0,by omega,rfl,λj hj=>absurd hj (Nat.not_lt_zero j),rfl⟩ ?round
  case le=>exact AZ (by exact Yd<|Yd<|Yd<|FrLe.nil) (by exact HpLe.nil)
  case round=>
   rintro mz _ ⟨k,hk,rfl,hall,rfl⟩
   by_cases hlt:k<L.length
   .by_cases h1:6<(Bs L k).l.length
    .have h1':6<(L.getD k default).l.length:=h1
     refine Ae<|Y1<|Wm<|Wm ?_;refine Wq Bb ?_;refine Wq AL ?_;refine Y0<|Ct<|Ys<|Ae<|AWp.block<|Y1<|Wm<|Wm ?_;refine Wq AD ?_;refine Wq Bd ?_;refine Wq Bd ?_;refine Wq Bd ?_;refine Wq Gv ?_;refine Wq Eo ?_;refine Wq AL ?_;refine Wm ?_;refine Ws ?_;refine Ws ?_;refine Ws ?_;refine Ws ?_;refine Ws ?_;refine Ws ?_;refine Ws ?_;refine Ws ?_;refine Ws ?_;refine Wq Bv ?_;refine Y0<|Ct<|Y1<|Wm<|Wa<|Y0<|Ar<|Bp<|Az<|Cg<|Bp<|Az ?_
     exact Yf
    .have h1':¬6<(L.getD k default).l.length:=h1
     by_cases h2:6<(Bs L k).l'.length
     .have h2':6<(L.getD k default).l'.length:=h2
      refine Ae<|Y1<|Wm<|Wm ?_;refine Wq Bb ?_;refine Wq AL ?_;refine Y0<|Ct<|Ys<|Ae<|AWp.block<|Y1<|Wm<|Wm ?_;refine Wq AD ?_;refine Wq Bd ?_;refine Wq Bd ?_;refine Wq Bd ?_;refine Wq Gv ?_;refine Wq Eo ?_;refine Wq AA ?_;refine Wm ?_;refine Wg Ah ?_;refine Wg Ah ?_;refine Wg AD ?_;refine Wg Bd ?_;refine Wg Bd ?_;refine Wg Bd ?_;refine Wg Gv ?_;refine Wg Eo ?_;refine Wg AL ?_;refine Wq Ba ?_;refine Y0<|Ct<|Y1<|Wm<|Wa<|Y0<|Ar<|Bp<|Az<|Cg<|Bp<|Az ?_
      exact Yf
     .have h2':¬6<(L.getD k default).l'.length:=h2
      refine Ae<|Y1<|Wm<|Wm ?_;refine Wq Bb ?_;refine Wq AL ?_;refine Y0<|Ct<|Ys<|Ae<|AWp.block<|Y1<|Wm<|Wm ?_;refine Wq AD ?_;refine Wq Bd ?_;refine Wq Bd ?_;refine Wq Bd ?_;refine Wq Gv ?_;refine Wq Eo ?_;refine Wq AA ?_;refine Wm ?_;refine Wg Ah ?_;refine Wg Ah ?_;refine Wg AD ?_;refine Wg Bd ?_;refine Wg Bd ?_;refine Wg Bd ?_;refine Wg Gv ?_;refine Wg Eo ?_;refine Wg AA ?_;refine Wq Ba ?_;refine Y0<|Cf<|Bg<|AE<|Yn<|AWp.region<|Wm ?_;refine Wq Cq ?_;refine Wa<|AWl.nil ?_
      refine ALoop.next (L.length-(k+1)) (by omega) ⟨k+1,by omega,rfl,λj hj=>?_,rfl⟩ ?_
      .rcases Nat.lt_succ_iff_lt_or_eq.1 hj with h | rfl
       .exact hall j h
       .exact ⟨by omega,by omega⟩
      .exact AZ (by exact Yd<|Yd<|Yd<|FrLe.nil) (by exact HpLe.nil)
   .obtain rfl:k=L.length:=by omega
    have hz:RF L:=λr hr=>by
     obtain ⟨i,hi,e⟩:=List.mem_iff_getElem.1 hr
     have e2:Bs L i=r:=by rw [Bs,List.getD_eq_getElem?_getD,List.getElem?_eq_getElem hi,e];rfl
     have:=hall i hi
     rw [e2] at this
     exact ⟨(hL r hr).1,(hL r hr).2,by omega,by omega⟩
    have c1:=OK T L hz (by omega)
    have c2:=MQ T L hz (by omega)
    by_cases hv:CQ L
    .rw [decide_eq_true hv] at c1 c2
     refine Ae<|Y1<|Wm<|Wm ?_;refine Wq Bb ?_;refine Wq AA ?_;refine Y0<|Cf<|BT<|BC<|BL<|BD<|Yn<|Y1<|Wm ?_;refine Wq (Aq (c1)) ?_;refine Wm ?_;refine Wq (Aq (c2)) ?_;refine Wq KI ?_;refine Wm ?_;refine Wg Ah ?_;refine Wq Bv ?_;refine Wa<|Y0<|Ar ?_
     exact Yf
    .rw [decide_eq_false hv] at c1 c2
     refine Ae<|Y1<|Wm<|Wm ?_;refine Wq Bb ?_;refine Wq AA ?_;refine Y0<|Cf<|BT<|BC<|BL<|BD<|Yn<|Y1<|Wm ?_;refine Wq (Aq (c1)) ?_;refine Wm ?_;refine Wq (Aq (c2)) ?_;refine Wq KI ?_;refine Wm ?_;refine Wg Ah ?_;refine Wq Bv ?_;refine Wa<|Y0<|Ar ?_
     exact Yf
end Go.Proofs.YtclmdofdjbdfiaaGreat
