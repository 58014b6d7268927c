/- Part 25 of the proof of hilbertStandards_holds. No condition. -/
import Derived.Laws.BytesArg
import Derived.Test.YtialdhnijjnpaaaGreatQf21
set_option linter.unusedSimpArgs false
set_option linter.unusedVariables false
set_option maxRecDepth 100000
namespace Go.Proofs.YtialdhnijjnpaaaGreat
open Go.RowKit
section
variable {P : Program} {hp:List Ow} {arg:Operand→AV} {dd:Option Tmp} {ty:TypeId} {ps:String} {af:Array Edge} {gd:Option (Nat × Bool)}
def u8S (L : List Nat):Value:=.string (strOfNums (L.map fun s=>((s:Nat):Int)))
theorem RN {S T e:TypeId} {x:Operand} {n b n' b' n2 b2:Nat} {z z' z2:Value} {L:List Nat} (hx:Eb hp (arg x) = some (Sh L)) (hS:Tab P S (.slice e) n b z) (hT:Tab P T .string n' b' z') (he:Tab P e (.int .u8) n2 b2 z2):Quiet P hp ⟨dd,.convert S T x,ty,ps,af,gd⟩ arg (.d (ex (u8S L))):=by
 refine ⟨fun base s ρ ev hok hbs hhp h=>?_⟩
 obtain ⟨A,c,e1,h3,h4,h5⟩:=BM hhp (h x (by simp [Op.operands])) hx
 rw [List.length_map] at e1 h3 h5
 refine Bl (v:=u8S L) ?_ ⟨GS.Le.refl s,rfl⟩
 by_cases h0:L = []
 ·subst h0
  simp only [execOp,e1]
  have hk:∀ A:Option Addr,(convert S T (.slice A 0 c)).run P s.w = .ok (u8S []) s.w:=fun A=>by
   cases A with
   | none=>exact run_convert_bytes_nil s.w S e hS.und he.und 0 c T hT.und
   | some a =>
    rw [run_convert_bytes_string s.w S T e _ 0 c hS.und he.und hT.und,run_bytesToString s.w a 0 c [] (by simp [loadCells,loadCellsFrom])]
    rfl
  have:=hk A
  simp only [List.length_nil]
  simp [this]
 ·obtain ⟨g,o,rfl,h6⟩:=h5 (List.length_pos_iff.2 h0)
  have hc := run_convert_bytes_arg (P := P) s.w S e hS.und he.und g o L.length c (L.map fun s => ((s : Nat) : Int)) (by simp) (fun i hi => by
   obtain ⟨_,h7⟩:=h6 i hi
   have er:(L.map fun s=>[ex (.int .u8 ((s:Nat):Int))]).getD i [] = [ex (.int .u8 ((L.getD i 0:Nat):Int))]:=by simp [hi]
   rw [er] at h7
   obtain ⟨u,h8,_,h9⟩:=h7.cell (k:=0) (by simp)
   rw [Nat.mul_one,Nat.add_zero] at h8
   rw [h8]
   have h9:u = .int .u8 ((L.getD i 0:Nat):Int):=h9
   rw [h9]
   simp [hi]) T hT.und
  simp only [execOp,e1]
  simp [hc,u8S]
theorem VH {T U:TypeId} {x y:Operand} {s:ByteArray} (hx:arg x = .d (ex (.string s))) (hy:arg y = .d (ex (.string s))):Quiet P hp ⟨dd,.binOp .eql T x y U,ty,ps,af,gd⟩ arg (.d (ex (.bool true))):=by
 refine VK hx hy fun w=>?_
 simp [eqGuard,binOp,Op.stringOp]
end
theorem Xt (n : Nat) (f:Nat→Int) (hn:n≤100000):Abs Tryz.prog 20 [nD n f,nD n f] (ex (.bool true)):=by
 refine Ab Tryz.func20 fun s0=>?_
 rw [Tryz.ntmps20]
 refine Y1<|Wa<|Y0<|Aa<|Y1<|Wm ?_;refine Wq (Fu (f:=f) rfl (Ac rfl)) ?_;refine Wm ?_;refine Wq (Fu (f:=f) rfl (Ac rfl)) ?_;refine Wq Aq ?_;apply Y0;refine Cf ?_;refine Ys<|Aa<|Y1<|Wa<|Y0<|AWp.block ?_
 refine AK (fun mz σ=>∃ k,k≤n∧mz = n - k∧σ = ⟨[(0,.d (nD n f)),(1,.d (nD n f)),(5,.d (ex (.int .i64 (k:Nat))))],[]⟩) ?le ⟨0,by omega,rfl,rfl⟩ ?round
 case le=>exact Ag (by exact Yd<|Yd<|Yd<|FrLe.nil) (by exact HpLe.nil)
 case round =>
  rintro mz _ ⟨k,hk,rfl,rfl⟩
  by_cases hlt:k<n
  ·refine Aa<|Y1<|Wm<|Wm ?_;refine Wq (Fu (f:=f) rfl (Ac rfl)) ?_;refine Wq Ar ?_;apply Y0;refine Ct ?_;refine Ys<|Aa<|AWp.block<|Aa ?_
   refine Dr [[],[],[(17,0),(18,1)],[(19,2)],[],[],[(21,4),(22,5)],[(23,6)],[(20,3),(24,7)]] [[],[],[0,1],[0,1,2],[],[],[4,5],[4,5,6],[0,1,2,3,4,5,6,7]] ?_
   refine Xq Ae ?_;refine Xq Ae ?_;refine Xq (KR (f:=f) (k:=k) rfl (ah rfl) (Ac rfl) (Ac rfl) rfl hlt) ?_;refine Xq Em ?_;refine Xq Ae ?_;refine Xq Ae ?_;refine Xq (KR (f:=f) (k:=k) rfl (ah rfl) (Ac rfl) (Ac rfl) rfl hlt) ?_;refine Xq Em ?_;refine Xq Aq ?_;refine ⟨_,rfl,?_⟩
   apply Y0;refine Cf ?_;apply Bf;apply Ah;refine Yn<|AWp.region<|Wm ?_;refine Wq AG ?_;refine Wa ?_;apply AWl.nil
   refine ALoop.next (n - (k+1)) (by omega) ⟨k+1,by omega,rfl,rfl⟩ ?_
   exact Ag (by exact Yd<|Yd<|Yd<|FrLe.nil) (by exact HpLe.nil)
  ·obtain rfl : k = n := by omega
   refine Aa<|Y1<|Wm<|Wm ?_;refine Wq (Fu (f:=f) rfl (Ac rfl)) ?_;refine Wq Aq ?_;apply Y0;refine Cf ?_;apply AF;apply Az;apply AA;apply AB;refine Yn<|Y1<|Wa<|Y0 ?_;apply Aw
   exact Yf
theorem Xr (L : List Nat):Abs Tryz.prog 21 [Sh L,Sh L] (ex (.bool true)):=by
 refine Ab Tryz.func21 fun s0=>?_
 rw [Tryz.ntmps21]
 refine Y1<|Wa<|Y0<|Y1<|Wm ?_;refine Wq (RN (L:=L) rfl (Ac rfl) (Ac rfl) (Ac rfl)) ?_;refine Wm ?_;refine Wq (RN (L:=L) rfl (Ac rfl) (Ac rfl) (Ac rfl)) ?_;refine Wq (VH (ao rfl) (ao rfl)) ?_;refine Wa<|Y0 ?_;apply Aw
 exact Yf
theorem US (a : Nat→Int):Gl a a = true:=DH.2 (Eqv.refl a)
theorem Xu (l : Af) (hn:l.length≤100000):Abs Tryz.prog 31 [BF l,BF l] (ex (.bool true)):=by
 refine Ab Tryz.func31 fun s0=>?_
 rw [Tryz.ntmps31]
 refine Y1<|Wa<|Y0<|Aa<|Y1<|Wm ?_;refine Wq (CW rfl rfl (Ac rfl)) ?_;refine Wm ?_;refine Wq (CW rfl rfl (Ac rfl)) ?_;refine Wq Aq ?_;apply Y0;refine Cf ?_;refine Ys<|Aa<|Y1<|Wa<|Y0<|AWp.block ?_
 refine AK (fun mz σ=>∃ k,k≤l.length∧mz = l.length - k∧σ = ⟨[(0,.d (BF l)),(1,.d (BF l)),(5,.d (ex (.int .i64 (k:Nat))))],[]⟩) ?le ⟨0,by omega,rfl,rfl⟩ ?round
 case le=>exact Ag (by exact Yd<|Yd<|Yd<|FrLe.nil) (by exact HpLe.nil)
 case round =>
  rintro mz _ ⟨k,hk,rfl,rfl⟩
  by_cases hlt:k<l.length
  ·have he:=US (AC l k)
   refine Aa<|Y1<|Wm<|Wm ?_;refine Wq (CW rfl rfl (Ac rfl)) ?_;refine Wq Ar ?_;apply Y0;refine Ct ?_;refine Ys<|Aa<|AWp.block<|Aa ?_
   refine Dr [[],[],[(17,0),(18,1)],[(19,2)],[],[],[(21,4),(22,5)],[(23,6)],[(20,3),(24,7)]] [[],[],[0,1],[0,1,2],[],[],[4,5],[4,5,6],[0,1,2,3,4,5,6,7]] ?_
   refine Xq Ae ?_;refine Xq Ae ?_;refine Xq Bd ?_;refine Xq AR ?_;refine Xq Ae ?_;refine Xq Ae ?_;refine Xq Bd ?_;refine Xq AR ?_;refine Xq Tf ?_;refine ⟨_,rfl,?_⟩
   apply Y0;refine Cf ?_;apply Bf;apply Ah;refine Yn<|AWp.region<|Wm ?_;refine Wq AG ?_;refine Wa ?_;apply AWl.nil
   refine ALoop.next (l.length - (k+1)) (by omega) ⟨k+1,by omega,rfl,rfl⟩ ?_
   exact Ag (by exact Yd<|Yd<|Yd<|FrLe.nil) (by exact HpLe.nil)
  ·obtain rfl : k = l.length := by omega
   refine Aa<|Y1<|Wm<|Wm ?_;refine Wq (CW rfl rfl (Ac rfl)) ?_;refine Wq Aq ?_;apply Y0;refine Cf ?_;apply AF;apply Az;apply AA;apply AB;refine Yn<|Y1<|Wa<|Y0 ?_;apply Aw
   exact Yf
end Go.Proofs.YtialdhnijjnpaaaGreat
