/- Part 20 of the proof of squaresMatchesReference_holds. No condition. -/
import Derived.Test.YtnhgojfjmhjokaaGreatSm19
set_option linter.unusedSimpArgs false
set_option linter.unusedVariables false
set_option maxRecDepth 100000
set_option maxHeartbeats 8000000
namespace Go.Proofs.YtnhgojfjmhjokaaGreat
open Go.RowKit
abbrev xL : List Tm:=[⟨1,Gv 0⟩]
abbrev yL : List Tm:=[⟨1,Gv 1⟩]
abbrev NZ : List Tm:=Dp (1:Int)
abbrev FO : List Tm:=Dp (-1:Int)
abbrev A06 : List Sq:=[⟨(2:Int),Fx⟩,⟨(-1:Int),yL⟩]
abbrev A00 : List Tm:=A09 (Eg (2:Int) (Fw Fx Fx)) (Fw yL yL)
abbrev TV : List Tm:=CX (Fw xL xL) NZ
theorem NO : PB xL 1 1 1:=Lz Hs
theorem VX : PB yL 1 1 1:=Lz Hs
theorem Jb : PB NZ 1 1 1:=Nr (Fu (by omega) (by omega)) (by omega)
theorem Od : PB FO 1 1 1:=Nr (Fu (by omega) (by omega)) (by omega)
theorem IY : PB Fx 2 3 1:=NO.add Jb
theorem Wp : ZU A06 2 3 1 1:=fun s hs=>by
 rcases List.mem_cons.1 hs with rfl | hs
 ·exact ⟨IY,Fu (by omega) (by omega)⟩
 ·rw [List.mem_singleton.1 hs]
  exact ⟨VX.mono (by omega) (by omega) (by omega),Fu (by omega) (by omega)⟩
theorem Wb : Sim (Gw A06) A00:=fun f hf=>by
 show DF f (CX (CX [] (Eg (2:Int) (Fw Fx Fx))) (Eg (-1:Int) (Fw yL yL))) = DF f (CX (Eg (2:Int) (Fw Fx Fx)) (neg (Fw yL yL)))
 rw [EZ,KS hf,KS hf,Ts,Qa hf (-1:Int)]
 have:((-1:Int):Rat) = -1:=rfl
 rw [this]
 grind
theorem ZZ : PB TV 2 5 2:=((NO.mul NO (by omega) (by omega)).add Jb).mono (by omega) (by omega) (by omega)
theorem To {f : (Nat→Int)→Rat} (hf:XE f):DF f (CX (Gw [⟨(1:Int),xL⟩]) (Hk [FO] [TV] 1)) = -f fun _=>0:=by
 show DF f (CX (CX [] (Eg (1:Int) (Fw xL xL))) (CX [] (Fw FO TV))) = _
 rw [EZ,EZ,KS hf,Qa hf,Pz FO TV f hf,Qb,FO,LW]
 simp only [DF,Gu]
 rw [KS hf,NZ,FE]
 simp only [DF]
 have:((1:Int):Rat) = 1:=rfl
 rw [this]
 grind
theorem A03 : ZU [⟨(1:Int),xL⟩] 1 1 1 1:=fun s hs=>by
 rw [List.mem_singleton.1 hs]
 exact ⟨NO,Fu (by omega) (by omega)⟩
theorem A0k : Zv [FO] 1 1 1:=fun p hp=>by
 rw [List.mem_singleton.1 hp]
 exact Od
theorem VY : Zv [TV] 2 5 2:=fun p hp=>by
 rw [List.mem_singleton.1 hp]
 exact ZZ
theorem YK : Canon (CX (Gw [⟨(1:Int),xL⟩]) (Hk [FO] [TV] 1)):=((JJ A03 (by omega) 1 (Nat.le_refl 1)).add (KO A0k VY (by omega) (by omega) rfl 1 (Nat.le_refl 1))).can
theorem A1h : Eu FO (CX (Gw [⟨(1:Int),xL⟩]) (Hk [FO] [TV] [FO].length)) = 0:=Ib.2 (Fc Od.can YK fun f hf=>by
 show DF f FO = DF f (CX (Gw [⟨(1:Int),xL⟩]) (Hk [FO] [TV] 1))
 rw [To hf,FO,LW]
 simp only [DF]
 grind)
theorem A1i : ¬ Eu NZ (CX (Gw [⟨(1:Int),xL⟩]) (Hk [FO] [TV] [FO].length)) = 0:=fun h=>by
 have h1:=(Ib.1 h).sim (fun _=>1) (fun _ _ _=>rfl)
 rw [show [FO].length = 1 from rfl,To (fun _ _ _=>rfl),NZ,FE] at h1
 simp only [DF] at h1
 grind
theorem WE : Abs Tryz.prog 40 [Bs FO,FM [⟨(1:Int),xL⟩],Yx [FO],Yx [TV]] (ex (.bool true)):=by
 have:=Ki FO [⟨(1:Int),xL⟩] [FO] [TV] 1 1 2 5 1 1 1 1 1 1 2 1 1 Od A03 (by decide) (fun k hk=>by obtain rfl:k = 0:=(by simpa using hk);exact (by decide +kernel)) A0k VY rfl (by decide) (by omega) (by omega) (by omega) (by omega) (by omega) (by omega) (by omega) (by omega) (by omega) (by omega) (by omega) (by omega) (by omega)
 rwa [decide_eq_true A1h] at this
theorem WF : Abs Tryz.prog 40 [Bs NZ,FM [⟨(1:Int),xL⟩],Yx [FO],Yx [TV]] (ex (.bool false)):=by
 have:=Ki NZ [⟨(1:Int),xL⟩] [FO] [TV] 1 1 2 5 1 1 1 1 1 1 2 1 1 Jb A03 (by decide) (fun k hk=>by obtain rfl:k = 0:=(by simpa using hk);exact (by decide +kernel)) A0k VY rfl (by decide) (by omega) (by omega) (by omega) (by omega) (by omega) (by omega) (by omega) (by omega) (by omega) (by omega) (by omega) (by omega) (by omega)
 rwa [decide_eq_false A1i] at this
abbrev l28 : List Sq:=[⟨1,Fx⟩,⟨1,NZ⟩]
abbrev k28 : List Sq:=[⟨(3:Int),NZ⟩]
theorem A1j : ∀ k,k<l28.length→0≤(HZ l28 k).a.num.sign:=Ld (by decide +kernel) (by decide +kernel)
theorem NV : Abs Tryz.prog 7 [] (ex (.bool true)):=by
 have hpp:=IY.mul IY (by omega) (by omega)
 have hyy:=VX.mul VX (by omega) (by omega)
 have h2:RSz ((2:Int):Rat) 1:=Fu (by omega) (by omega)
 have hsp:=KL hpp h2
 have cscale:=FI (2:Int) (Fw Fx Fx) 1 14 h2 hpp.sz (hpp.ex.mono (Int.le_refl _) (by omega)) (Nat.le_trans hpp.len (by omega)) (by omega)
 have hsum:=JJ Wp (by omega) 2 (Nat.le_refl 2)
 have csame:=Vt hsum.can (hsp.sub hyy).can Wb
 refine Ab Tryz.func7 fun s0=>?_
 rw [Tryz.ntmps7]
 refine Y1<|Wa<|Y0<|Y1 ?_;refine Wq (Af (XH 0 (by omega))) ?_;refine Wa<|Y0<|Y1 ?_;refine Wq (Af (XH 1 (by omega))) ?_;refine Wa<|Y0<|Y1 ?_;refine Wq (Af (HX 1 (by omega) (by omega))) ?_;refine Wa<|Y0<|Y1<|Wm<|Wm ?_;refine Wq (Af (KV NO Jb (by omega) (by omega))) ?_;refine Wa<|Y0<|Y1 ?_;refine Wq (Af (BF 2 (by omega) (by omega))) ?_;refine Wm ?_;(refine BO rfl rfl ?_;(refine BK (Aa rfl) rfl rfl rfl ?_;(repeat ((first | refine ⟨_,AH (ao rfl),?_⟩ | refine ⟨_,Po rfl,?_⟩);refine ⟨_,rfl,?_⟩));refine ⟨_,rfl,?_⟩));refine Wq (Af (BF (-1) (by omega) (by omega))) ?_;refine Wm ?_;(refine BO rfl rfl ?_;(refine BK (Aa rfl) rfl rfl rfl ?_;(repeat ((first | refine ⟨_,AH (ao rfl),?_⟩ | refine ⟨_,Po rfl,?_⟩);refine ⟨_,rfl,?_⟩));refine ⟨_,rfl,?_⟩));(refine BO rfl rfl ?_;(refine Cw (Aa rfl) (Aa rfl) rfl rfl rfl rfl rfl ?_;(repeat ((first | refine ⟨_,AH (ao rfl),?_⟩ | refine ⟨_,Po rfl,?_⟩);refine ⟨_,rfl,?_⟩));refine ⟨_,rfl,?_⟩));refine Wq (Af (Ls A06 2 3 1 1 Wp (by omega) (by decide) (by omega) (by omega) (by omega) (by omega))) ?_;refine Wm ?_;refine Wq Ba ?_;refine Wq Ba ?_;refine Wa<|Wa<|Y0<|Y1 ?_;refine Wq (Af (BF 2 (by omega) (by omega))) ?_;refine Wm<|Wm ?_;refine Wq (Af (Sm IY IY (by omega) (by omega) (by omega) (by omega) (by omega) (by omega))) ?_;refine Wq (Af (cscale)) ?_;refine Wm<|Wm ?_;refine Wq (Af (Sm VX VX (by omega) (by omega) (by omega) (by omega) (by omega) (by omega))) ?_;refine Wq (Af (Zp hsp hyy (by omega) (by omega) (by omega))) ?_;refine Wa<|Y0<|Y1 ?_;(refine BO rfl rfl ?_;(refine ER (Aa rfl) (Aa rfl) rfl rfl ?_;(repeat ((first | refine ⟨_,AH (ao rfl),?_⟩ | refine ⟨_,Po rfl,?_⟩);refine ⟨_,rfl,?_⟩));refine ⟨_,rfl,?_⟩));(refine BO rfl rfl ?_;(refine ER (Aa rfl) (Aa rfl) rfl rfl ?_;(repeat ((first | refine ⟨_,AH (ao rfl),?_⟩ | refine ⟨_,Po rfl,?_⟩);refine ⟨_,rfl,?_⟩));refine ⟨_,rfl,?_⟩));(refine BO rfl rfl ?_;(refine Cw (Aa rfl) (Aa rfl) rfl rfl rfl rfl rfl ?_;(repeat ((first | refine ⟨_,AH (ao rfl),?_⟩ | refine ⟨_,Po rfl,?_⟩);refine ⟨_,rfl,?_⟩));refine ⟨_,rfl,?_⟩));refine Wa<|Y0<|Y1<|Wm ?_;refine Wq (Af (FA 1 1 1 2 (by omega) (by omega) (by omega) (by omega))) ?_;refine Wq (Af (UL)) ?_;refine Wm ?_;refine Wq Ba ?_;refine Wq Ba ?_;refine Wa<|Wa<|Y0<|Y1<|Wm ?_;refine Wq (Af (FA 0 1 1 2 (by omega) (by omega) (by omega) (by omega))) ?_;refine Wq (Af (UJ)) ?_;refine Wm ?_;refine Wq Ba ?_;refine Wq Ba ?_;refine Wa<|Wa<|Y0<|Y1<|Wm ?_;refine Wq (Af (FA 1 2 2 1 (by omega) (by omega) (by omega) (by omega))) ?_;refine Wq (Af (UI)) ?_;refine Wm ?_;refine Wq Ba ?_;refine Wq Ba ?_;refine Wa<|Wa<|Y0<|Y1<|Wm ?_;refine Wq (Af (FA 0 0 0 3 (by omega) (by omega) (by omega) (by omega))) ?_;refine Wq (Af (UK)) ?_;refine Wm ?_;refine Wq Ba ?_;refine Wq Ba ?_;refine Wa<|Wa<|Y0<|Ac ?_
 refine Fj (Db (e:=9) (by kernel_rfl) (K4 (K4 (AddE.keep (AddE.keep (AddE.add (AddE.keep AddE.nil)))))) (by kernel_rfl)) [[],[(77,0)],[],[],[(79,2),(80,3)],[(81,4)],[(78,1),(82,5)],[(83,6)],[(76,7)],[(76,7)]] [[],[0],[],[2],[2,3],[2,3,4],[0,1,2,3,4,5],[0,1,2,3,4,5,6],[0,1,2,3,4,5,6,7],[0,1,2,3,4,5,6,7]] rfl (by kernel_rfl) (by kernel_rfl) (by kernel_rfl) ?_
 refine Xq Ae ?_;refine Xq (XP (f:=Cv) (l:=Nc) (i:=1) rfl (ah rfl) (Aa rfl) (Aa rfl) rfl (by decide)) ?_;refine Xq (Af (BF 1 (by omega) (by omega))) ?_;refine Xq (Af (BF 0 (by omega) (by omega))) ?_;(refine Hq rfl ?_;refine Cw (Aa rfl) (Aa rfl) rfl rfl rfl rfl rfl ?_;(repeat ((first | refine ⟨_,AH (ah rfl),?_⟩ | refine ⟨_,Po rfl,?_⟩);refine ⟨_,rfl,?_⟩));refine ⟨_,rfl,?_⟩;refine ⟨_,rfl,?_⟩);(refine Hq rfl ?_;refine Cw (Aa rfl) (Aa rfl) rfl rfl rfl rfl rfl ?_;(repeat ((first | refine ⟨_,AH (ah rfl),?_⟩ | refine ⟨_,Po rfl,?_⟩);refine ⟨_,rfl,?_⟩));refine ⟨_,rfl,?_⟩;refine ⟨_,rfl,?_⟩);refine Xq (Af (UG)) ?_;refine Xq Ae ?_;refine Xq Ba ?_;refine Xq Ba ?_;refine ⟨_,rfl,?_⟩
 refine Wa<|Wa ?_;apply AWl.nil;apply OnlyN.mk';refine Yn<|Y1<|Wm ?_;refine Wq (Af (FA 1 2 3 4 (by omega) (by omega) (by omega) (by omega))) ?_;refine Wq (Af (UH)) ?_;refine Wm ?_;refine Wq Ba ?_;refine Wq Ba ?_;refine Wa<|Wa<|Y0<|Ac<|Y1<|Wm ?_;refine Wq Ai ?_;refine Wm ?_;refine Wg Ae ?_;refine Wg Ai ?_;refine Wq AG ?_;refine Wm ?_;refine Wg Ae ?_;refine Wg Ai ?_;refine Wq AG ?_;refine Wm ?_;refine Wg Ae ?_;refine Wg Ai ?_;refine Wq AG ?_;refine Wm ?_;refine Wg Ae ?_;refine Wg Ai ?_;refine Wq AG ?_;refine Wm ?_;refine Wg Ae ?_;refine Wg Ai ?_;refine Wq AG ?_;refine Wm ?_;refine Wg Ae ?_;refine Wg Ai ?_;refine Wq AG ?_;apply Y0;refine Cf ?_;refine Ys<|Y1<|Wm<|Wm ?_;refine Wq (Af (Sm NO NO (by omega) (by omega) (by omega) (by omega) (by omega) (by omega))) ?_;refine Wm ?_;refine Wq (Af (KV (NO.mul NO (by omega) (by omega)) Jb (by omega) (by omega))) ?_;(refine BO rfl rfl ?_;(refine Cw (Aa rfl) (Aa rfl) rfl rfl rfl rfl rfl ?_;(repeat ((first | refine ⟨_,AH (ao rfl),?_⟩ | refine ⟨_,Po rfl,?_⟩);refine ⟨_,rfl,?_⟩));refine ⟨_,rfl,?_⟩));refine Wa<|Y0<|Y1 ?_;refine Wq (Af (HX (-1) (by omega) (by omega))) ?_;refine Wq (Af (BF 1 (by omega) (by omega))) ?_;refine Wm ?_;(refine BO rfl rfl ?_;(refine BK (Aa rfl) rfl rfl rfl ?_;(repeat ((first | refine ⟨_,AH (ao rfl),?_⟩ | refine ⟨_,Po rfl,?_⟩);refine ⟨_,rfl,?_⟩));refine ⟨_,rfl,?_⟩));refine Wq (Bv (ao rfl) (Aa rfl) (Aa rfl) rfl rfl rfl rfl rfl) ?_;refine Wq (Af (HX (-1) (by omega) (by omega))) ?_;(refine BO rfl rfl ?_;(refine Cw (Aa rfl) (Aa rfl) rfl rfl rfl rfl rfl ?_;(repeat ((first | refine ⟨_,AH (ao rfl),?_⟩ | refine ⟨_,Po rfl,?_⟩);refine ⟨_,rfl,?_⟩));refine ⟨_,rfl,?_⟩));refine Wm ?_;refine Wq (Af (WE)) ?_;refine Wm ?_;refine Wg (Af (HX 1 (by omega) (by omega))) ?_;refine Wg (Af (BF 1 (by omega) (by omega))) ?_;refine Wg Ae ?_;(refine ES rfl rfl rfl rfl rfl ?_;(refine BK (Aa rfl) rfl rfl rfl ?_;(repeat ((first | refine ⟨_,AH (ao rfl),?_⟩ | refine ⟨_,Po rfl,?_⟩);refine ⟨_,rfl,?_⟩));refine ⟨_,rfl,?_⟩));refine Wg (Bv (ao rfl) (Aa rfl) (Aa rfl) rfl rfl rfl rfl rfl) ?_;refine Wg (Af (HX (-1) (by omega) (by omega))) ?_;(refine ES rfl rfl rfl rfl rfl ?_;(refine Cw (Aa rfl) (Aa rfl) rfl rfl rfl rfl rfl ?_;(repeat ((first | refine ⟨_,AH (ao rfl),?_⟩ | refine ⟨_,Po rfl,?_⟩);refine ⟨_,rfl,?_⟩));refine ⟨_,rfl,?_⟩));refine Wg Ae ?_;refine Wg (Af (WF)) ?_;refine Wg Bj ?_;refine Wq AO ?_;refine Wa<|Y0<|Y1<|Wm<|Wm ?_;refine Wg Ae ?_;refine Wg Ae ?_;refine Wg (Af (csame)) ?_;refine Wq AO ?_;refine Wm ?_;refine Wg Ae ?_;refine Wg (Af (BF 1 (by omega) (by omega))) ?_;refine Wg Ae ?_;(refine ES rfl rfl rfl rfl rfl ?_;(refine BK (Aa rfl) rfl rfl rfl ?_;(repeat ((first | refine ⟨_,AH (ao rfl),?_⟩ | refine ⟨_,Po rfl,?_⟩);refine ⟨_,rfl,?_⟩));refine ⟨_,rfl,?_⟩));refine Wg (Af (BF 1 (by omega) (by omega))) ?_;refine Wg Ae ?_;(refine ES rfl rfl rfl rfl rfl ?_;(refine BK (Aa rfl) rfl rfl rfl ?_;(repeat ((first | refine ⟨_,AH (ao rfl),?_⟩ | refine ⟨_,Po rfl,?_⟩);refine ⟨_,rfl,?_⟩));refine ⟨_,rfl,?_⟩));(refine ES rfl rfl rfl rfl rfl ?_;(refine Cw (Aa rfl) (Aa rfl) rfl rfl rfl rfl rfl ?_;(repeat ((first | refine ⟨_,AH (ao rfl),?_⟩ | refine ⟨_,Po rfl,?_⟩);refine ⟨_,rfl,?_⟩));refine ⟨_,rfl,?_⟩));refine Wg (Af (EA l28 (by decide))) ?_;refine Wq AO ?_;refine Wm ?_;refine Wg Ae ?_;refine Wg (Af (BF 3 (by omega) (by omega))) ?_;refine Wg Ae ?_;(refine ES rfl rfl rfl rfl rfl ?_;(refine BK (Aa rfl) rfl rfl rfl ?_;(repeat ((first | refine ⟨_,AH (ao rfl),?_⟩ | refine ⟨_,Po rfl,?_⟩);refine ⟨_,rfl,?_⟩));refine ⟨_,rfl,?_⟩));refine Wg (Bv (ao rfl) (Aa rfl) (Aa rfl) rfl rfl rfl rfl rfl) ?_;refine Wg (Af (EA k28 (by decide))) ?_;refine Wq AO ?_;refine Wm ?_;refine Wg Ae ?_;refine Wg (Af (JL l28 (by decide) A1j)) ?_;refine Wq AO ?_;refine Wm ?_;refine Wg (Af (BF (-1) (by omega) (by omega))) ?_;refine Wg Ae ?_;(refine ES rfl rfl rfl rfl rfl ?_;(refine BK (Aa rfl) rfl rfl rfl ?_;(repeat ((first | refine ⟨_,AH (ao rfl),?_⟩ | refine ⟨_,Po rfl,?_⟩);refine ⟨_,rfl,?_⟩));refine ⟨_,rfl,?_⟩));refine Wg (Bv (ao rfl) (Aa rfl) (Aa rfl) rfl rfl rfl rfl rfl) ?_;refine Wg (Af (MS [⟨(-1:Int),xL⟩] (by decide) 0 (by decide) (fun k h=>absurd h (Nat.not_lt_zero k)) (by decide +kernel))) ?_;refine Wg Bj ?_;refine Wq AO ?_;refine Wa<|Y0 ?_;apply As
 exact Yf
def u4C (l : Nat→Int):List D:=[ex (.int .u8 (l 0)),ex (.int .u8 (l 1)),ex (.int .u8 (l 2)),ex (.int .u8 (l 3))]
theorem Ze {M : Nat→Nat→Rat} {S:Nat} (h:∀ i j,RSz (M i j) S) (i j:Nat):RSz (Mc M i j) S:=by
 unfold Mc
 split
 ·exact h _ _
 ·exact h _ _
theorem Wn (T : Nat) (L:List Sr) (U:Nat) (V:List Int) (x:Nat→Int) (hL:∀ s∈L,Sr.Ok s) (hV:ZV V) (hx:∀ j,j<4→0≤x j∧x j≤255):Abs Tryz.prog 3 [srD T L,BI [OY U V],BI (u4C x)] (ex (.bool true)):=by
 have hnat:∀ j,j<4→∃ a:Nat,x j = a∧a<256:=fun j hj=>⟨(x j).toNat,by have:=hx j hj;omega,by have:=hx j hj;omega⟩
 obtain ⟨a,ea,ha⟩:=hnat 0 (by omega)
 obtain ⟨b,eb,hb⟩:=hnat 1 (by omega)
 obtain ⟨c,ec,hc⟩:=hnat 2 (by omega)
 obtain ⟨d,ed,hd⟩:=hnat 3 (by omega)
 have hB:=YX (signs:=true) hL 4
 have hl:(FW true L 4).length≤4:=by rw [Jd];omega
 have cl:=Sg T L true hL 4 (by omega)
 generalize FW true L 4 = S at hB hl cl
 have csame:=IM (SameL.refl (Gw S))
 obtain ⟨vb,cv,cv'⟩:∃ vb,Abs Tryz.prog 12 [FM S] (ex (.bool vb))∧Abs Tryz.prog 13 [FM S] (ex (.bool vb)):=by
  rcases A0b S with h | ⟨z,hz,h1,h2⟩
  ·exact ⟨true,JL S (by omega) h,Sd S (by omega) h⟩
  ·exact ⟨false,MS S (by omega) z hz h1 h2,Se S (by omega) z hz h1 h2⟩
 have cm:=WZ U V hV a b ha hb
 have cb:=Zd U V hV a ha
 have hM:=fun i j=>PO V (b % 5) i j
 have hM':=fun i j=>Ze (fun i j=>PO V (a % 5) i j) i j
 generalize FB V (b % 5) = M at cm hM
 generalize Mc (FB V (a % 5)) = M' at cb hM'
 have k1:=Nd d (a % 5) hd (by omega)
 have k2:=Nd d (b % 5) hd (by omega)
 have oa:=ZQ d (a % 5) (by omega)
 have ob:=ZQ d (b % 5) (by omega)
 have la:=Id d (a % 5)
 have lb:=Id d (b % 5)
 obtain ⟨L1,e1,l1,g1,g1'⟩:=Ih (a % 5) (a % 5) (b % 5) (oS d (b % 5)) M' (by omega) (by omega) (by omega) lb ob hM'
 obtain ⟨L2,e2,l2,g2,g2'⟩:=Ih (a % 5) (a % 5) (a % 5) (oS d (a % 5)) M' (by omega) (by omega) (by omega) la oa hM'
 obtain ⟨L3,e3,l3,g3,g3'⟩:=Ih (a % 5) (b % 5) (b % 5) (oS d (b % 5)) M (by omega) (by omega) (by omega) lb ob hM
 obtain ⟨L4,e4,l4,g4,g4'⟩:=Ih (a % 5) (b % 5) (a % 5) (oS d (a % 5)) M (by omega) (by omega) (by omega) la oa hM
 have e5:((b % 5:Nat):Int) = x 1 % 5:=by omega
 have p0:=hx 0 (by omega)
 have p1:=hx 1 (by omega)
 have p2:=hx 2 (by omega)
 have p3:=hx 3 (by omega)
 rw [e5] at k2
 rw [← ed] at k1 k2
 rw [← ea] at cb
 rw [← ea,← eb] at cm
 refine Ab Tryz.func3 fun s0=>?_
 rw [Tryz.ntmps3]
 apply Y1;refine Bx ?_;refine Bx ?_;refine Wa<|Y0<|Y1 ?_;refine Wq (Af (NV)) ?_;refine Wa<|Y0<|Ac<|Y1<|Wm ?_;refine Wq Bj ?_;apply Y0;refine Cf ?_;refine Ys<|Y1<|Wm ?_;refine Wq (Af (cl)) ?_;refine Wa<|Y0<|Y1<|Wm ?_;refine Wq (Af (Ls S 3 9 10 2 hB (by omega) (by omega) (by omega) (by omega) (by omega) (by omega))) ?_;refine Wm ?_;refine Wq Ba ?_;refine Wq Ba ?_;refine Wa<|Wa<|Y0<|Y1<|Wm ?_;refine Wq (Af (Vk S 3 9 10 2 hB (by omega) (by omega) (by omega) (by omega) (by omega) (by omega))) ?_;refine Wm ?_;refine Wq Ba ?_;refine Wq Ba ?_;refine Wa<|Wa<|Y0<|Ac<|Y1<|Wm<|Wm ?_;refine Wq Ai ?_;refine Wm ?_;refine Wg Ae ?_;refine Wg Ae ?_;refine Wg (Af (csame)) ?_;refine Wg Bj ?_;refine Wq AG ?_;refine Wm ?_;refine Wg Ae ?_;refine Wg (Af (cv)) ?_;refine Wg Ae ?_;refine Wg (Af (cv')) ?_;refine Wg Vy ?_;refine Wq AG ?_;apply Y0;(refine EO (ao rfl) (by first | (simp;done) | fail) ?_);refine Ys<|Y1 ?_;refine Wq Ao ?_;refine Wq (Dq (ao rfl) (ao rfl) (Aa rfl) (Aa rfl) (by decide)) ?_;refine Wq AA ?_;refine Wq (Dq (ao rfl) (ao rfl) (Aa rfl) (Aa rfl) (by decide)) ?_;refine Wq AA ?_;refine Wq (Af (cm)) ?_;refine Wa<|Y0<|Ac<|Y1 ?_;refine Wq (Dq (ao rfl) (ao rfl) (Aa rfl) (Aa rfl) (by decide)) ?_;refine Wq AA ?_;refine Wq BU ?_;refine Wq Kb ?_;apply Y0
 by_cases h2:x 2 % 2 = 0
 ·by_cases h5:x 2 % 5 = 1
  ·refine Gk (ao rfl) (decide_eq_true (by omega)) ?_; apply AWp.region; refine Wq Ao ?_; refine Wq (Dq (ao rfl) (ao rfl) (Aa rfl) (Aa rfl) (by decide)) ?_; refine Wq AA ?_; refine Wq (Af (cb)) ?_; refine Wa ?_; apply AWl.nil; refine Yn<|Ac<|AWp.region ?_; refine Wq (Dq (ao rfl) (ao rfl) (Aa rfl) (Aa rfl) (by decide)) ?_; refine Wq AA ?_; refine Wm ?_; refine Wq (Bl rfl (Aa rfl)) ?_; refine Wq (Af (k1)) ?_; refine Wa ?_; apply AWl.nil; refine Yn<|Ac<|Ac<|AWp.region ?_; refine Wq (Dq (ao rfl) (ao rfl) (Aa rfl) (Aa rfl) (by decide)) ?_; refine Wq AA ?_; refine Wq BU ?_; refine Wq Ak ?_; apply AWl.nil; apply Yn; refine Ct ?_; apply AWp.region; refine Wq (Dq (ao rfl) (ao rfl) (Aa rfl) (Aa rfl) (by decide)) ?_; refine Wq AA ?_; refine Wq (Dq (ao rfl) (ao rfl) (Aa rfl) (Aa rfl) (by decide)) ?_; refine Wq AA ?_; refine Wq BU ?_; refine Wq Bh ?_; refine Wq (Af (k2)) ?_; refine Wa ?_; apply AWl.nil; refine Yn<|Ac<|AWp.region<|Wm<|Wm ?_; refine Wq (Af (g1)) ?_; refine Wm ?_; refine Wq Ba ?_; refine Wq Ba ?_; refine Wa<|Wa ?_; apply AWl.nil; refine Yn<|Ac<|AWp.region<|Wm<|Wm ?_; refine Wq (Af (g1')) ?_; refine Wm ?_; refine Wq Ba ?_; refine Wq Ba ?_; refine Wa<|Wa ?_; apply AWl.nil; refine Yn<|Ac<|AWp.region<|Wm<|Wm ?_; refine Wg Ae ?_; refine Wg Ae ?_; refine Wg Ak ?_; refine Wq AO ?_; refine Wm ?_; refine Wg Ae ?_; refine Wg Ae ?_; refine Wg (Af (EA L1 (by omega))) ?_; refine Wq AO ?_; refine Wa ?_; apply AWl.nil; apply Yn; apply As
   exact Yf
  ·refine Gk (ao rfl) (decide_eq_true (by omega)) ?_; apply AWp.region; refine Wq Ao ?_; refine Wq (Dq (ao rfl) (ao rfl) (Aa rfl) (Aa rfl) (by decide)) ?_; refine Wq AA ?_; refine Wq (Af (cb)) ?_; refine Wa ?_; apply AWl.nil; refine Yn<|Ac<|AWp.region ?_; refine Wq (Dq (ao rfl) (ao rfl) (Aa rfl) (Aa rfl) (by decide)) ?_; refine Wq AA ?_; refine Wm ?_; refine Wq (Bl rfl (Aa rfl)) ?_; refine Wq (Af (k1)) ?_; refine Wa ?_; apply AWl.nil; refine Yn<|Ac<|Ac<|AWp.region ?_; refine Wq (Dq (ao rfl) (ao rfl) (Aa rfl) (Aa rfl) (by decide)) ?_; refine Wq AA ?_; refine Wq BU ?_; refine Wq Ai ?_; apply AWl.nil; apply Yn; refine Cf ?_; apply Bi; refine Yn<|Ac<|AWp.region<|Wm<|Wm ?_; refine Wq (Af (g2)) ?_; refine Wm ?_; refine Wq Ba ?_; refine Wq Ba ?_; refine Wa<|Wa ?_; apply AWl.nil; refine Yn<|Ac<|AWp.region<|Wm<|Wm ?_; refine Wq (Af (g2')) ?_; refine Wm ?_; refine Wq Ba ?_; refine Wq Ba ?_; refine Wa<|Wa ?_; apply AWl.nil; refine Yn<|Ac<|AWp.region<|Wm<|Wm ?_; refine Wg Ae ?_; refine Wg Ae ?_; refine Wg Ak ?_; refine Wq AO ?_; refine Wm ?_; refine Wg Ae ?_; refine Wg Ae ?_; refine Wg (Af (EA L2 (by omega))) ?_; refine Wq AO ?_; refine Wa ?_; apply AWl.nil; apply Yn; apply As
   exact Yf
 ·by_cases h5:x 2 % 5 = 1
  ·refine EO (ao rfl) (decide_eq_false (by omega)) ?_; apply Bi; refine Yn<|Ac<|AWp.region ?_; refine Wq (Dq (ao rfl) (ao rfl) (Aa rfl) (Aa rfl) (by decide)) ?_; refine Wq AA ?_; refine Wm ?_; refine Wq (Bl rfl (Aa rfl)) ?_; refine Wq (Af (k1)) ?_; refine Wa ?_; apply AWl.nil; refine Yn<|Ac<|Ac<|AWp.region ?_; refine Wq (Dq (ao rfl) (ao rfl) (Aa rfl) (Aa rfl) (by decide)) ?_; refine Wq AA ?_; refine Wq BU ?_; refine Wq Ak ?_; apply AWl.nil; apply Yn; refine Ct ?_; apply AWp.region; refine Wq (Dq (ao rfl) (ao rfl) (Aa rfl) (Aa rfl) (by decide)) ?_; refine Wq AA ?_; refine Wq (Dq (ao rfl) (ao rfl) (Aa rfl) (Aa rfl) (by decide)) ?_; refine Wq AA ?_; refine Wq BU ?_; refine Wq Bh ?_; refine Wq (Af (k2)) ?_; refine Wa ?_; apply AWl.nil; refine Yn<|Ac<|AWp.region<|Wm<|Wm ?_; refine Wq (Af (g3)) ?_; refine Wm ?_; refine Wq Ba ?_; refine Wq Ba ?_; refine Wa<|Wa ?_; apply AWl.nil; refine Yn<|Ac<|AWp.region<|Wm<|Wm ?_; refine Wq (Af (g3')) ?_; refine Wm ?_; refine Wq Ba ?_; refine Wq Ba ?_; refine Wa<|Wa ?_; apply AWl.nil; refine Yn<|Ac<|AWp.region<|Wm<|Wm ?_; refine Wg Ae ?_; refine Wg Ae ?_; refine Wg Ak ?_; refine Wq AO ?_; refine Wm ?_; refine Wg Ae ?_; refine Wg Ae ?_; refine Wg (Af (EA L3 (by omega))) ?_; refine Wq AO ?_; refine Wa ?_; apply AWl.nil; apply Yn; apply As
   exact Yf
  ·refine EO (ao rfl) (decide_eq_false (by omega)) ?_; apply Bi; refine Yn<|Ac<|AWp.region ?_; refine Wq (Dq (ao rfl) (ao rfl) (Aa rfl) (Aa rfl) (by decide)) ?_; refine Wq AA ?_; refine Wm ?_; refine Wq (Bl rfl (Aa rfl)) ?_; refine Wq (Af (k1)) ?_; refine Wa ?_; apply AWl.nil; refine Yn<|Ac<|Ac<|AWp.region ?_; refine Wq (Dq (ao rfl) (ao rfl) (Aa rfl) (Aa rfl) (by decide)) ?_; refine Wq AA ?_; refine Wq BU ?_; refine Wq Ai ?_; apply AWl.nil; apply Yn; refine Cf ?_; apply Bi; refine Yn<|Ac<|AWp.region<|Wm<|Wm ?_; refine Wq (Af (g4)) ?_; refine Wm ?_; refine Wq Ba ?_; refine Wq Ba ?_; refine Wa<|Wa ?_; apply AWl.nil; refine Yn<|Ac<|AWp.region<|Wm<|Wm ?_; refine Wq (Af (g4')) ?_; refine Wm ?_; refine Wq Ba ?_; refine Wq Ba ?_; refine Wa<|Wa ?_; apply AWl.nil; refine Yn<|Ac<|AWp.region<|Wm<|Wm ?_; refine Wg Ae ?_; refine Wg Ae ?_; refine Wg Ak ?_; refine Wq AO ?_; refine Wm ?_; refine Wg Ae ?_; refine Wg Ae ?_; refine Wg (Af (EA L4 (by omega))) ?_; refine Wq AO ?_; refine Wa ?_; apply AWl.nil; apply Yn; apply As
   exact Yf
end Go.Proofs.YtnhgojfjmhjokaaGreat
