/- Part 25 of the proof of hilbertMatchesReference_holds. No condition. -/
import Derived.Laws.BytesArg
import Derived.Test.YtialdhnijjnpaaaGreatQg21
set_option linter.unusedSimpArgs false
set_option linter.unusedVariables false
set_option maxRecDepth 100000
namespace Go.Proofs.YtialdhnijjnpaaaGreat
open Go.RowKit
section
variable {P:Program} {hp:List Ow} {arg:Operand->AV} {dd:Option Tmp} {ty:TypeId} {ps:String} {af:Array Edge} {gd:Option (Nat×Bool)}
def u8S(L:List Nat):Value:=.string (strOfNums (L.map λs=>((s:Nat):Int)))
theorem VM{S T e:TypeId}{x:Operand}{n b n' b' n2 b2:Nat}{z z' z2:Value}{L:List Nat}(hx:Ed hp (arg x)=some (Oo L))(hS:Tab P S (.slice e) n b z)(hT:Tab P T .string n' b' z')(he:Tab P e (.int .u8) n2 b2 z2):Quiet P hp ⟨dd,.convert S T x,ty,ps,af,gd⟩ arg (.d (ex (u8S L))):=by
 refine ⟨λbase s ρ ev hok hbs hhp h=>?_⟩
 obtain ⟨A,c,e1,h3,h4,h5⟩:=BW hhp (h x (by simp [Op.operands])) hx
 rw [List.length_map] at e1 h3 h5
 refine Bk (v:=u8S L) ?_ ⟨GS.Le.refl s,rfl⟩
 by_cases h0:L=[]
 .subst h0
  simp only [execOp,e1]
  have hk:∀A:Option Addr,(convert S T (.slice A 0 c)).run P s.w = .ok (u8S []) s.w:=λA=>by
   cases A with
   | none=>exact run_convert_bytes_nil s.w S e hS.und he.und 0 c T hT.und
   | some a=>
    rw [run_convert_bytes_string s.w S T e _ 0 c hS.und he.und hT.und,run_bytesToString s.w a 0 c [] (by simp [loadCells,loadCellsFrom])]
    rfl
  have:=hk A
  simp only [List.length_nil]
  simp [this]
 .obtain ⟨g,o,rfl,h6⟩:=h5 (List.length_pos_iff.2 h0)
  have hc := run_convert_bytes_arg (P := P) s.w S e hS.und he.und g o L.length c (L.map fun s => ((s : Nat) : Int)) (by simp) (fun i hi => by
   obtain ⟨_,h7⟩:=h6 i hi
   have er:(L.map λs=>[ex (.int .u8 ((s:Nat):Int))]).getD i []=[ex (.int .u8 ((L.getD i 0:Nat):Int))]:=by simp [hi]
   rw [er] at h7
   obtain ⟨u,h8,_,h9⟩:=h7.cell (k:=0) (by simp)
   rw [Nat.mul_one,Nat.add_zero] at h8
   rw [h8]
   have h9:u = .int .u8 ((L.getD i 0:Nat):Int):=h9
   rw [h9]
   simp [hi]) T hT.und
  simp only [execOp,e1]
  simp [hc,u8S]
theorem A0B{T U:TypeId}{x y:Operand}{s:ByteArray}(hx:arg x = .d (ex (.string s)))(hy:arg y = .d (ex (.string s))):Quiet P hp ⟨dd,.binOp .eql T x y U,ty,ps,af,gd⟩ arg (.d (ex (.bool true))):=by
 refine PG hx hy λw=>?_
 simp [eqGuard,binOp,Op.stringOp]
end
theorem VJ(n:Nat)(f:Nat->Int)(hn:n<=100000):Abs Tryz.prog 20 [nD n f,nD n f] (ex (.bool true)):=by
 refine Ab Tryz.func20 λs0=>?_
 rw [Tryz.ntmps20]
 refine Y1<|Wa<|Y0<|Aa<|Y1<|Wm ?_;refine Wq (BX (f:=f) rfl (Ac rfl)) ?_;refine Wm ?_;refine Wq (BX (f:=f) rfl (Ac rfl)) ?_;refine Wq Aj ?_;refine Y0<|Cf<|Ys<|Aa<|Y1<|Wa<|Y0<|AWp.block ?_
 refine AC (λmz σ=>∃k,k<=n/\mz=n-k/\σ=⟨[(0,.d (nD n f)),(1,.d (nD n f)),(5,.d (ex (.int .i64 (k:Nat))))],[]⟩) ?le ⟨0,by omega,rfl,rfl⟩ ?round
 case le=>exact Ah (by exact Yd<|Yd<|Yd<|FrLe.nil) (by exact HpLe.nil)
 case round=>
  rintro mz _ ⟨k,hk,rfl,rfl⟩
  by_cases hlt:k<n
  .refine Aa<|Y1<|Wm<|Wm ?_;refine Wq (BX (f:=f) rfl (Ac rfl)) ?_;refine Wq Ak ?_;refine Y0<|Ct<|Ys<|Aa<|AWp.block<|Aa ?_
   refine Dr [[],[],[(17,0),(18,1)],[(19,2)],[],[],[(21,4),(22,5)],[(23,6)],[(20,3),(24,7)]] [[],[],[0,1],[0,1,2],[],[],[4,5],[4,5,6],[0,1,2,3,4,5,6,7]] ?_
   refine Xq Af ?_;refine Xq Af ?_;refine Xq (FI (f:=f) (k:=k) rfl (ah rfl) (Ac rfl) (Ac rfl) rfl hlt) ?_;refine Xq CA ?_;refine Xq Af ?_;refine Xq Af ?_;refine Xq (FI (f:=f) (k:=k) rfl (ah rfl) (Ac rfl) (Ac rfl) rfl hlt) ?_;refine Xq CA ?_;refine Xq Aj ?_;refine ⟨_,rfl,?_⟩
   refine Y0<|Cf<|AWp.skip<|Ag<|Yn<|AWp.region<|Wm ?_;refine Wq AD ?_;refine Wa<|AWl.nil ?_
   refine ALoop.next (n-(k+1)) (by omega) ⟨k+1,by omega,rfl,rfl⟩ ?_
   exact Ah (by exact Yd<|Yd<|Yd<|FrLe.nil) (by exact HpLe.nil)
  .obtain rfl:k=n:=by omega
   refine Aa<|Y1<|Wm<|Wm ?_;refine Wq (BX (f:=f) rfl (Ac rfl)) ?_;refine Wq Aj ?_;refine Y0<|Cf<|AA<|Aq<|Ar<|ABlock.hit<|Yn<|Y1<|Wa<|Y0<|Am ?_
   exact Yf
theorem VI(L:List Nat):Abs Tryz.prog 21 [Oo L,Oo L] (ex (.bool true)):=by
 refine Ab Tryz.func21 λs0=>?_
 rw [Tryz.ntmps21]
 refine Y1<|Wa<|Y0<|Y1<|Wm ?_;refine Wq (VM (L:=L) rfl (Ac rfl) (Ac rfl) (Ac rfl)) ?_;refine Wm ?_;refine Wq (VM (L:=L) rfl (Ac rfl) (Ac rfl) (Ac rfl)) ?_;refine Wq (A0B (ao rfl) (ao rfl)) ?_;refine Wa<|Y0<|Am ?_
 exact Yf
theorem ZP(a:Nat->Int):HA a a=true:=Da.2 (Eqv.refl a)
theorem Lb(l:Ai)(hn:l.length<=100000):Abs Tryz.prog 31 [AZ l,AZ l] (ex (.bool true)):=by
 refine Ab Tryz.func31 λs0=>?_
 rw [Tryz.ntmps31]
 refine Y1<|Wa<|Y0<|Aa<|Y1<|Wm ?_;refine Wq (Dh rfl rfl (Ac rfl)) ?_;refine Wm ?_;refine Wq (Dh rfl rfl (Ac rfl)) ?_;refine Wq Aj ?_;refine Y0<|Cf<|Ys<|Aa<|Y1<|Wa<|Y0<|AWp.block ?_
 refine AC (λmz σ=>∃k,k<=l.length/\mz=l.length-k/\σ=⟨[(0,.d (AZ l)),(1,.d (AZ l)),(5,.d (ex (.int .i64 (k:Nat))))],[]⟩) ?le ⟨0,by omega,rfl,rfl⟩ ?round
 case le=>exact Ah (by exact Yd<|Yd<|Yd<|FrLe.nil) (by exact HpLe.nil)
 case round=>
  rintro mz _ ⟨k,hk,rfl,rfl⟩
  by_cases hlt:k<l.length
  .have he:=ZP (AH l k)
   refine Aa<|Y1<|Wm<|Wm ?_;refine Wq (Dh rfl rfl (Ac rfl)) ?_;refine Wq Ak ?_;refine Y0<|Ct<|Ys<|Aa<|AWp.block<|Aa ?_
   refine Dr [[],[],[(17,0),(18,1)],[(19,2)],[],[],[(21,4),(22,5)],[(23,6)],[(20,3),(24,7)]] [[],[],[0,1],[0,1,2],[],[],[4,5],[4,5,6],[0,1,2,3,4,5,6,7]] ?_
   refine Xq Af ?_;refine Xq Af ?_;refine Xq AE ?_;refine Xq AB ?_;refine Xq Af ?_;refine Xq Af ?_;refine Xq AE ?_;refine Xq AB ?_;refine Xq XF ?_;refine ⟨_,rfl,?_⟩
   refine Y0<|Cf<|AWp.skip<|Ag<|Yn<|AWp.region<|Wm ?_;refine Wq AD ?_;refine Wa<|AWl.nil ?_
   refine ALoop.next (l.length-(k+1)) (by omega) ⟨k+1,by omega,rfl,rfl⟩ ?_
   exact Ah (by exact Yd<|Yd<|Yd<|FrLe.nil) (by exact HpLe.nil)
  .obtain rfl:k=l.length:=by omega
   refine Aa<|Y1<|Wm<|Wm ?_;refine Wq (Dh rfl rfl (Ac rfl)) ?_;refine Wq Aj ?_;refine Y0<|Cf<|AA<|Aq<|Ar<|ABlock.hit<|Yn<|Y1<|Wa<|Y0<|Am ?_
   exact Yf
theorem A21(n:Nat)(F:Nat->Rat)(hn:n<=100000):Abs Tryz.prog 30 [BP n F,BP n F] (ex (.bool true)):=by
 have hq:∀k,Abs Tryz.prog 41 [Bb (BT (F k)),Bb (BT (F k))] (ex (.bool true)):=λk=>by
  have:=Mo (F k) (F k)
  rwa [decide_eq_true rfl] at this
 refine Ab Tryz.func30 λs0=>?_
 rw [Tryz.ntmps30]
 refine Y1<|Wa<|Y0<|Aa<|Y1<|Wm ?_;refine Wq (Cc (F:=BV F) rfl (Ac rfl)) ?_;refine Wm ?_;refine Wq (Cc (F:=BV F) rfl (Ac rfl)) ?_;refine Wq Aj ?_;refine Y0<|Cf<|Ys<|Aa<|Y1<|Wa<|Y0<|AWp.block ?_
 refine AC (λmz σ=>∃k,k<=n/\mz=n-k/\σ=⟨[(0,.d (BP n F)),(1,.d (BP n F)),(5,.d (ex (.int .i64 (k:Nat))))],[]⟩) ?le ⟨0,by omega,rfl,rfl⟩ ?round
 case le=>exact Ah (by exact Yd<|Yd<|Yd<|FrLe.nil) (by exact HpLe.nil)
 case round=>
  rintro mz _ ⟨k,hk,rfl,rfl⟩
  by_cases hlt:k<n
  .refine Aa<|Y1<|Wm<|Wm ?_;refine Wq (Cc (F:=BV F) rfl (Ac rfl)) ?_;refine Wq Ak ?_;refine Y0<|Ct<|Ys<|Aa<|AWp.block<|Aa ?_
   refine Dr [[],[],[(17,0),(18,1)],[(19,2)],[],[],[(21,4),(22,5)],[(23,6)],[(20,3),(24,7)],[(25,8)]] [[],[],[0,1],[0,1,2],[],[],[4,5],[4,5,6],[0,1,2,3,4,5,6,7],[0,1,2,3,4,5,6,7,8]] ?_
   refine Xq Af ?_;refine Xq Af ?_;refine Xq (FH (F:=BV F) (k:=k) rfl (ah rfl) (Ac rfl) (Ac rfl) rfl hlt) ?_;refine Xq AB ?_;refine Xq Af ?_;refine Xq Af ?_;refine Xq (FH (F:=BV F) (k:=k) rfl (ah rfl) (Ac rfl) (Ac rfl) rfl hlt) ?_;refine Xq AB ?_;refine Xq (Ad (hq k)) ?_;refine Xq BH ?_;refine ⟨_,rfl,?_⟩
   refine Y0<|Cf<|AWp.skip<|Ag<|Yn<|AWp.region<|Wm ?_;refine Wq AD ?_;refine Wa<|AWl.nil ?_
   refine ALoop.next (n-(k+1)) (by omega) ⟨k+1,by omega,rfl,rfl⟩ ?_
   exact Ah (by exact Yd<|Yd<|Yd<|FrLe.nil) (by exact HpLe.nil)
  .obtain rfl:k=n:=by omega
   refine Aa<|Y1<|Wm<|Wm ?_;refine Wq (Cc (F:=BV F) rfl (Ac rfl)) ?_;refine Wq Aj ?_;refine Y0<|Cf<|AA<|Aq<|Ar<|ABlock.hit<|Yn<|Y1<|Wa<|Y0<|Am ?_
   exact Yf
end Go.Proofs.YtialdhnijjnpaaaGreat
