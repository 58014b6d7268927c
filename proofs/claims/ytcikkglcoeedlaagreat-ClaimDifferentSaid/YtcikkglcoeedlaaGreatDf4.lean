/- Part 4. No condition. -/
import Derived.BigQuiet
import Derived.ChangeAlike
import Derived.ChangeKeysEq
import Derived.Deep.Cut
import Derived.Deep.CutBlock
import Derived.Deep.DeepCutAuto
import Derived.Deep.LoopGhost
import Derived.Deep.QuietTactic
import Derived.Deep.RegionHeld3
import Derived.Laws.AppendOwnNone
import Derived.RegionTactic
import Derived.WalkKit
import Derived.WalkLawsBesides
import Derived.WalkSpells
import Derived.Test.YtcikkglcoeedlaaGreatDf1
set_option linter.unusedSimpArgs false
set_option linter.unusedVariables false
set_option maxRecDepth 100000
set_option maxHeartbeats 1600000
namespace Go.Proofs.YtcikkglcoeedlaaGreat
open _root_.Go.Proofs.Tryz
open Go.RowKit
variable{i:IntKind}{vu:List (Nat->Int)}{n b:Nat}{vh vC uR:Nat->Int}{t:TypeId}{w p:World}
def c8(a:Nat->Int):Array Value:=#[.int .i64 (a 0),.int .i64 (a 1),.int .i64 (a 2),.int .i64 (a 3),.int .i64 (a 4),.int .i64 (a 5),.int .i64 (a 6),.int .i64 (a 7)]
theorem A62(a:Nat->Int)(k:Nat)(h:k<8):(c8 a)[k]? = some (.int .i64 (a k)):=by
 match k,h with
 |0,_=>rfl
 |1,_=>rfl
 |2,_=>rfl
 |3,_=>rfl
 |4,_=>rfl
 |5,_=>rfl
 |6,_=>rfl
 |7,_=>rfl
theorem lt8(h:n<8):n=0\/n=1\/n=2\/n=3\/n=4\/n=5\/n=6\/n=7:=by omega
theorem GJ(a:Nat->Int)(k:Nat)(h:k<8)(W:World):(Instr.index 112 (.agg #[.int .i64 (a 0),.int .i64 (a 1),.int .i64 (a 2),.int .i64 (a 3),.int .i64 (a 4),.int .i64 (a 5),.int .i64 (a 6),.int .i64 (a 7)]) (.int .i64 (k:Int))).run prog W=.ok (.int .i64 (a k)) W:=by
 rcases lt8 h with rfl | rfl | rfl | rfl | rfl | rfl | rfl | rfl<;>kernel_rfl
theorem TE(a:Nat->Int)(k:Nat)(h:k<8)(W:World):(Instr.index 36 (.agg #[.int .i64 (a 0),.int .i64 (a 1),.int .i64 (a 2),.int .i64 (a 3),.int .i64 (a 4),.int .i64 (a 5),.int .i64 (a 6),.int .i64 (a 7)]) (.int .i64 (k:Int))).run prog W=.ok (.int .i64 (a k)) W:=by
 rcases lt8 h with rfl | rfl | rfl | rfl | rfl | rfl | rfl | rfl<;>kernel_rfl
theorem A23(a:Nat->Int)(k:Nat)(h:k<8)(W:World):(part 3 (c8 a) (k*Tryz.prog.cellsOf 3)).run prog W=.ok (.int .i64 (a k)) W:=by
 rcases lt8 h with rfl | rfl | rfl | rfl | rfl | rfl | rfl | rfl<;>kernel_rfl
def LU(a b:Nat->Int):Bool:=(List.range 8).all λi=>a i==b i
theorem GP:LU vh vC=true↔∀i,i<8->vh i=vC i:=by simp[LU]
theorem Kf(d:Nat)(a b:Nat->Int)(W:World):∀A:List Nat,(∀i∈A,i<8)->(Op.eqItems (d+1) 3 (Tryz.prog.cellsOf 3) (c8 a) (c8 b) A).run prog W=.ok (A.all λi=>a i==b i) W
 |[],_=>by simp[Op.eqItems]
 |i::A,h=>by
  have v:=Kf d a b W A λj q=>h j (by simp[q]);have J:=h i ZbV;simp only[Op.eqItems,Sem.run_bind,A23 a i J,A23 b i J,Result.andThen_ok,run_equalIn_int W d 3 .i64 .i64 _ _ (show Tryz.prog.underlying 3=some (.int .i64)by kernel_rfl)];cases F:a i==b i
  .simp [F]
  .simp only[Bool.not_true,Bool.false_eq_true,if_false,v,List.all_cons,F,Bool.true_and]
theorem Jb(a b:Nat->Int)(W:World):(Op.equalIn 10000 112 (.agg #[.int .i64 (a 0),.int .i64 (a 1),.int .i64 (a 2),.int .i64 (a 3),.int .i64 (a 4),.int .i64 (a 5),.int .i64 (a 6),.int .i64 (a 7)]) (.agg #[.int .i64 (b 0),.int .i64 (b 1),.int .i64 (b 2),.int .i64 (b 3),.int .i64 (b 4),.int .i64 (b 5),.int .i64 (b 6),.int .i64 (b 7)])).run prog W=.ok (LU a b) W:=by
 obtain⟨i,J⟩:∃i,Tryz.prog.info? 3=some i:=YcS.1 ZbK;have:=run_equalIn_array (P:=prog) W 9999 (t:=112) (e:=3) (n:=8) (c8 a) (c8 b) ZbK J;exact ZiX
theorem A9W(a:Nat->Int)(k:Nat)(v:Int)(h:k<8):(c8 a).setIfInBounds k (.int .i64 v)=c8 (λi=>if i=k then v else a i):=by
 match k,h with
 |0,_=>rfl
 |1,_=>rfl
 |2,_=>rfl
 |3,_=>rfl
 |4,_=>rfl
 |5,_=>rfl
 |6,_=>rfl
 |7,_=>rfl
theorem Blk.at8{a:Nat->Int}(h:Blk w n t (c8 a))(B:b<8):w.cell? ⟨n,b,none⟩=some (.int .i64 (a b)):=by
 rw[h.cell,A62 a b B]
theorem Blk.set8(h:Blk w n t (c8 vh))(B:b<8)(v:Int):Blk (w.setCell ⟨n,b,none⟩ (.int .i64 v)) n t (c8 (λi=>if i=b then v else vh i)):=by
 rw[<-A9W vh b v B];exact h.set b _
def CV(a:Nat->Int):Nat->Int
 |0=>0
 |k+1=>CV a k+a k
def In8(a:Nat->Int)(b J:Int):Prop:=∀i,i<8->b<=a i/\a i<=J
theorem In8.mono{a:Nat->Int}{b J Q w:Int}(h:In8 a b J)(q:Q<=b)(A:J<=w):In8 a Q w:=λi J=>by have:=h i J;omega
theorem IZ{a:Nat->Int}{b J:Int}(h:In8 a b J):∀k,k<=8->b*k<=CV a k/\CV a k<=J*k
 |0,_=>by simp[CV]
 |k+1,B=>by
  have v:=IZ h k ZbG;have:=h k ZbG;simp only[CV,Ycq,Int.mul_add];omega
theorem A1u(a:Nat->Int)(w:World)(h:In8 a (-1000000) 1000000) :
  Calls prog 289 #[.agg #[.int .i64 (a 0),.int .i64 (a 1),.int .i64 (a 2),.int .i64 (a 3),.int .i64 (a 4),.int .i64 (a 5),.int .i64 (a 6),.int .i64 (a 7)]] w λe M=>e=.returned (.int .i64 (CV a 8))/\Ext w M:=by
 replace h:=Af h;go_enter func289,ntmps289;go_wp2;go_loopw [3,7] (λs i wr=>∃k:Nat,k<=8/\i=.int .i64 k/\s=.int .i64 (CV a k)/\Hid (Ext w wr)) (λ_ i _=>8-(intOf i).toNat)
 case atStart=>exact ZjK
 case round=>
  obtain⟨k,B,rfl,rfl,Q⟩:=hrel;by_cases O:k<8
  .have C:=λW=>GJ a k O W
   have E:=IZ h.out k B;have T:=h.out k O;have Z:CV a (k+1)=CV a k+a k:=rfl;generalize CV a k=s at *;generalize a k=x at *;replace Z:=Af Z;go_wp2;exact⟨⟨k+1,O,by simp,by rw[Z.out],Q⟩,by simp[intOf];omega⟩
  .exact ZaC
def Ji(a b:Nat->Int):Nat->Nat->Int
 |_,0=>0
 |k,n+1=>if a k=b k then Ji a b (k+1) n else if a k<b k then -1 else 1
def Ih(a b:Nat->Int):Int:=Ji a b 0 8
theorem Sk{a b:Nat->Int}:∀(n k:Nat),(∀i,k<=i->i<k+n->a i=b i)->Ji a b k n=0
 |0,_,_=>rfl
 |n+1,k,h=>by
  rw[Ji,Yan (h k ZbG ZbG)];exact Sk n (k+1) λi q A=>h i ZbG ZbG
theorem A5A(a b:Nat->Int)(w:World) :
  Calls prog 297 #[.agg #[.int .i64 (a 0),.int .i64 (a 1),.int .i64 (a 2),.int .i64 (a 3),.int .i64 (a 4),.int .i64 (a 5),.int .i64 (a 6),.int .i64 (a 7)],.agg #[.int .i64 (b 0),.int .i64 (b 1),.int .i64 (b 2),.int .i64 (b 3),.int .i64 (b 4),.int .i64 (b 5),.int .i64 (b 6),.int .i64 (b 7)]] w λe M=>e=.returned (.int .i64 (Ih a b))/\Ext w M:=by
 have F:=λW=>Jb a b W
 cases C:LU a b with
 |true=>
  rw[C]at F;go_enter func297,ntmps297;go_wp2;go_ret;refine⟨?_,((Ext.refl _).alloc _).alloc _⟩;rw[Ih,Sk 8 0 λi _ h=>GP.1 C i ZbG];rfl
 |false=>
  rw[C]at F;have I:¬∀i,i<8->a i=b i:=λh=>by rw[GP.2 h]at C;cases C
  clear C;replace I:=Af I;have L:Hid (Blk ((w.alloc (.cells #[.int .i64 (a 0),.int .i64 (a 1),.int .i64 (a 2),.int .i64 (a 3),.int .i64 (a 4),.int .i64 (a 5),.int .i64 (a 6),.int .i64 (a 7)] 112)).alloc (.cells #[.int .i64 (b 0),.int .i64 (b 1),.int .i64 (b 2),.int .i64 (b 3),.int .i64 (b 4),.int .i64 (b 5),.int .i64 (b 6),.int .i64 (b 7)] 112)) w.heap.size 112 (c8 a)):=(Blk.new _ _ _).alloc _;have S:Hid (Blk ((w.alloc (.cells #[.int .i64 (a 0),.int .i64 (a 1),.int .i64 (a 2),.int .i64 (a 3),.int .i64 (a 4),.int .i64 (a 5),.int .i64 (a 6),.int .i64 (a 7)] 112)).alloc (.cells #[.int .i64 (b 0),.int .i64 (b 1),.int .i64 (b 2),.int .i64 (b 3),.int .i64 (b 4),.int .i64 (b 5),.int .i64 (b 6),.int .i64 (b 7)] 112)) (w.heap.size+1) 112 (c8 b)):=EQ _ _ ZbV;have Q:Hid (Ext w ((w.alloc (.cells #[.int .i64 (a 0),.int .i64 (a 1),.int .i64 (a 2),.int .i64 (a 3),.int .i64 (a 4),.int .i64 (a 5),.int .i64 (a 6),.int .i64 (a 7)] 112)).alloc (.cells #[.int .i64 (b 0),.int .i64 (b 1),.int .i64 (b 2),.int .i64 (b 3),.int .i64 (b 4),.int .i64 (b 5),.int .i64 (b 6),.int .i64 (b 7)] 112))):=((Ext.refl _).alloc _).alloc _;go_enter func297,ntmps297;go_wp2;generalize ((w.alloc (.cells #[.int .i64 (a 0),.int .i64 (a 1),.int .i64 (a 2),.int .i64 (a 3),.int .i64 (a 4),.int .i64 (a 5),.int .i64 (a 6),.int .i64 (a 7)] 112)).alloc (.cells #[.int .i64 (b 0),.int .i64 (b 1),.int .i64 (b 2),.int .i64 (b 3),.int .i64 (b 4),.int .i64 (b 5),.int .i64 (b 6),.int .i64 (b 7)] 112))=g at *;go_loopw [5] (λi wr=>∃k:Nat,k<8/\i=.int .i64 k/\Hid ((¬∀i,k<=i->i<8->a i=b i)/\Ih a b=Ji a b k (8-k)/\Blk wr w.heap.size 112 (c8 a)/\Blk wr (w.heap.size+1) 112 (c8 b)/\Ext w wr)) (λi _=>8-(intOf i).toNat)
  case atStart=>exact⟨0,by omega,rfl,λh=>I.out λi J=>h i ZbG J,rfl,L.out,S.out,Q.out⟩
  case round=>
   obtain⟨k,B,rfl,G⟩:=hrel;have H:=G.out.2.2.1.at8 B;have P:=G.out.2.2.2.1.at8 B
   have Z:Hid (Ji a b k (8-k)=if a k=b k then Ji a b (k+1) (8-(k+1))else if a k<b k then -1 else 1):=by
    rw[show 8-k=8-(k+1)+1 by omega];rfl
   have E:Hid (a k=b k->k+1<8/\¬∀i,k+1<=i->i<8->a i=b i):=λh=>by
    have q:¬∀i,k+1<=i->i<8->a i=b i:=λA=>G.out.1 λi K Y=>by
     by_cases e:i=k
     .rw [e];exact h
     .exact A i ZbG Y
    refine⟨?_,q⟩;by_cases N:k+1<8
    .exact N
    .exact absurd (λi K Y=>by omega) q
   generalize a k=x at *;generalize b k=y at *;by_cases l:x=y
   .have m:=E.out l
    have u:=Z.out;rw[Yan l]at u;replace u:=Af (G.out.2.1.trans u);have V:=m.1;replace m:=Af m.2;go_wp2;go_quiet (fail);go_wp2;exact⟨⟨k+1,V,by simp,m.out,u.out,G.out.2.2.1,G.out.2.2.2.1,G.out.2.2.2.2.drewN _⟩,by simp[intOf];omega⟩
   .have u:=Z.out
    rw[Yai l]at u;replace u:=Af (G.out.2.1.trans u);by_cases O:x<y
    .rw [Yan O]at u
     go_wp2;go_quiet (fail);go_wp2;go_quiet (fail);go_wp2;exact Ziu
    .rw [Yai O]at u
     go_wp2;go_quiet (fail);go_wp2;go_quiet (fail);go_wp2;exact Ziu
def FT(R:List (Nat->Int))(k:Nat):Nat->Int:=R.getD k (λ_=>0)
def RowsAt(z:IntKind)(t:TypeId)(w:World)(v:Value)(R:List (Nat->Int)):Prop:=
 ∃(A:Option Addr) (c:Nat),v=.slice A R.length c/\R.length<=c/\c<=9223372036854775807 /\
  (0<R.length->∃(b o:Nat) (f:Array Value) (Q:Nat×Nat),A=some ⟨b,o,none⟩/\w.heap[b]? = some (.cells f t Q)/\∀k j,k<R.length->j<8->f[o+k*8+j]? = some (.int z (FT R k j)))
theorem RowsAt.open_{v:Value}(h:RowsAt i t w v vu):∃(A:Option Addr) (c:Nat),v=.slice A vu.length c/\vu.length<=c/\c<=9223372036854775807 /\
  (0<vu.length->∃(b o:Nat),A=some ⟨b,o,none⟩/\b<w.heap.size/\∀k j,k<vu.length->j<8->w.cell? ⟨b,o+k*8+j,none⟩=some (.int i (FT vu k j))):=by
 obtain⟨A,c,q,B,K,Y⟩:=h;refine⟨A,c,q,B,K,λG=>?_⟩;obtain⟨b,o,f,Q,n,E,F⟩:=Y G;exact⟨b,o,n,Bw E,λk j C W=>(Db E).trans (F k j C W)⟩
def Qb(r a b:Nat->Int)(k:Nat):Int:=CV (λi=>r i*(a i-b i)) k
def Jm:List (Nat->Int)->(Nat->Int)->(Nat->Int)->Int
 |[],_,_=>0
 |r::R,a,b=>if Qb r a b 8<0 then -1 else if 0<Qb r a b 8 then 1 else Jm R a b
def IF(R:List (Nat->Int))(a b:Nat->Int):Int:=if Jm R a b=0 then Ih a b else Jm R a b
theorem Rt{a:Nat->Int}:∀{k:Nat},(∀i,i<k->a i=0)->CV a k=0
 |0,_=>rfl
 |k+1,h=>by rw[CV,Rt λi J=>h i ZbG,h k ZbG];rfl
theorem SJ{a b:Nat->Int}(h:∀i,i<8->a i=b i):∀R,Jm R a b=0
 |[]=>rfl
 |r::R=>by
  have:Qb r a b 8=0:=Rt λi J=>by rw[h i J,Int.sub_self,Int.mul_zero]
  rw[Jm,this,Yai ZbG,Yai ZbG,SJ h R]
theorem A7q(h:∀i,i<8->vh i=vC i)(R:List (Nat->Int)):IF R vh vC=0:=by
 rw[IF,SJ h,Yan rfl,Ih,Sk 8 0 λi _ J=>h i ZbG]
theorem NI{a b:Nat->Int}(h:∀i,i<8->a i=b i):c8 a=c8 b:=by
 simp only[c8,h 0 ZbG,h 1 ZbG,h 2 ZbG,h 3 ZbG,h 4 ZbG,h 5 ZbG,h 6 ZbG,h 7 ZbG]
theorem Blk.set8'{a C:Nat->Int}(h:Blk w n t (c8 a))(B:b<8)(v:Int)(q:C b=v)(A:∀i,i<8->i≠b->C i=a i):Blk (w.setCell ⟨n,b,none⟩ (.int .i64 v)) n t (c8 C):=by
 rw[show c8 C=c8 (λi=>if i=b then v else a i)from NI λi J=>by
  by_cases e:i=b
  .rw [Yan e,e,q]
  .rw [Yai e,A i J e]]
 exact h.set8 B v
def Tz(a:Nat->Int)(k:Nat)(i:Nat):Int:=if i<k then a i else 0
theorem Kd{a:Nat->Int}(h:b<n):Tz a n b=a b:=Yan h
theorem Qx(h:¬b<n):Tz vh n b=0:=Yai h
theorem Blk.up8(h:Blk w n t (c8 (Tz vh b)))(B:b<8){v:Int}(r:v=vh b):Blk (w.setCell ⟨n,b,none⟩ (.int .i64 v)) n t (c8 (Tz vh (b+1))):=by
 refine h.set8' B v (by rw[Kd ZbG,r]) λi J A=>?_;by_cases q:i<b
 .rw [Kd q,Kd ZbG]
 .rw [Qx q,Qx ZbG]
theorem Blk.full8{a:Nat->Int}(h:Blk w n t (c8 (Tz a 8))):Blk w n t (c8 a):=by
 rw[<-NI (a:=Tz a 8) λi J=>Kd J];exact h
def put8(w:World)(b:Nat)(a:Nat->Int):World:=(((((((w.setCell ⟨b,0,none⟩ (.int .i64 (a 0))).setCell ⟨b,1,none⟩ (.int .i64 (a 1))).setCell ⟨b,2,none⟩ (.int .i64 (a 2))).setCell ⟨b,3,none⟩ (.int .i64 (a 3))).setCell ⟨b,4,none⟩ (.int .i64 (a 4))).setCell ⟨b,5,none⟩ (.int .i64 (a 5))).setCell ⟨b,6,none⟩ (.int .i64 (a 6))).setCell ⟨b,7,none⟩ (.int .i64 (a 7))
theorem Ext.put8(h:Ext w p){b:Nat}(E:w.heap.size<=b)(a:Nat->Int):Ext w (put8 p b a):=
 (((((((h.set (p:=⟨b,0,none⟩) E _).set (p:=⟨b,1,none⟩) E _).set (p:=⟨b,2,none⟩) E _).set (p:=⟨b,3,none⟩) E _).set (p:=⟨b,4,none⟩) E _).set (p:=⟨b,5,none⟩) E _).set (p:=⟨b,6,none⟩) E _).set (p:=⟨b,7,none⟩) E _
def BW(m:Nat)(i:Nat):Int:=(m >>> i%2:Nat)
def rl(R:List (Nat->Int)):List Value:=R.flatMap λa=>(c8 a).toList
theorem Vv(a:Nat->Int)(R:List (Nat->Int)):rl (a::R)=(c8 a).toList++rl R:=rfl
theorem A2T(R S:List (Nat->Int)):rl (R++S)=rl R++rl S:=by simp[rl]
theorem Io:∀R:List (Nat->Int),(rl R).length=R.length*8
 |[]=>rfl
 |a::R=>by rw[Vv,Yaa,Io R];simp[c8];omega
theorem A08(a:Nat->Int)(R:List (Nat->Int))(k:Nat):FT (a::R) (k+1)=FT R k:=by simp[FT]
theorem A09:∀(R:List (Nat->Int)) (k j:Nat),k<R.length->j<8->(rl R)[k*8+j]? = some (.int .i64 (FT R k j))
 |[],k,j,h,_=>by simp at h
 |a::R,0,j,_,W=>by
  rw[Vv,Yav (by simp[c8];omega),YcD,YaG,Ycr,A62 a j W];rfl
 |a::R,k+1,j,B,W=>by
  rw[Vv,Yal (by simp[c8];omega),A08,<-A09 R k j Zdn W];congr 1;simp[c8];omega
theorem A9e{u:Value}(h:u∈rl vu):u.oneCell'=true:=by
 simp only[rl,Yez]at h;obtain⟨a,_,S⟩:=h;simp[c8]at S;rcases S with rfl | rfl | rfl | rfl | rfl | rfl | rfl | rfl<;>rfl
def OwnRows(t:TypeId)(base:Nat)(w:World)(v:Value)(R:List (Nat->Int)):Prop:=w.ownsRow base t 8 v R.length (rl R)
theorem OwnRows.rows{base:Nat}{v:Value}{R:List (Nat->Int)}(h:OwnRows t base w v R):RowsAt .i64 t w v R:=by
 obtain⟨q,A⟩:=h;rcases A with⟨rfl,d⟩ | ⟨g,cap,cur,rfl,_,hg,hc,hm,hsz,ht⟩
 .exact ⟨none,0,by rw[d],by omega,by omega,λG=>by omega⟩
 .refine ⟨_, cap, rfl, hc, by simpa [maxLen] using hm, λ_=>⟨g, 0, cur, (0, 0), rfl, hg, λk j B W=>?_⟩⟩
  have b:(cur.toList.take (R.length*8))[k*8+j]? = (rl R)[k*8+j]?:=by rw[ht]
  rw[YaK,Yan ZbG,A09 R k j B W]at b;rw[YaG];simpa using b
theorem OwnRows.form{v:Value}(h:OwnRows t n w v vu):∃A c,v=.slice A vu.length c:=by
 obtain⟨_,q⟩:=h;rcases q with⟨rfl,d⟩ | ⟨g,cap,cur,rfl,_⟩
 .exact ⟨none,0,by rw[d]⟩
 .exact ⟨_,_,rfl⟩
theorem OwnRows.ext{base:Nat}{v:Value}{R:List (Nat->Int)}(h:OwnRows t base w v R)(a:Ext w p):OwnRows t base p v R:=by
 obtain⟨q,A⟩:=h;refine⟨q,?_⟩;rcases A with A | ⟨g,cap,cur,h3,h4,hg,h5⟩
 .exact .inl A
 .exact .inr ⟨g,cap,cur,h3,h4,(a.block (Bw hg)).trans hg,h5⟩
theorem OwnRows.blk{base g:Nat}{R:List (Nat->Int)}{c:Nat}(T:base<=g)(E:Blk w g t (rl R).toArray)(F:c=R.length)(x:R.length<=1000000000000):OwnRows t base w (.slice (some ⟨g,0,none⟩) R.length c) R:=by
 subst F;exact⟨Io R,.inr ⟨g,_,_,rfl,T,E,Yah _,by simp only[maxLen];omega,by simp[Io],by rw[List.toList_toArray,Yar (by rw[Io];omega)]⟩⟩
theorem OwnRows.base_le{base:Nat}{v:Value}{R:List (Nat->Int)}(h:OwnRows t base w v R):∀k,v.ownBlock=some k->base<=k:=by
 intro k B;obtain⟨q,A⟩:=h;rcases A with⟨rfl,_⟩ | ⟨g,cap,cur,rfl,h4,hg,h5⟩
 .cases B
 .cases B;exact h4
def A1C(t:TypeId)(h base:Nat)(w:World)(v x:Value)(R S:List (Nat->Int)):Prop:=
 ∃A c M,(Builtin.append_ #[h,h] h #[v,x]).run prog w=.ok (.slice A (R.length+S.length) c) M/\OwnRows t base M (.slice A (R.length+S.length) c) (R++S)/\w.grownBy M v.ownBlock
theorem NK{base:Nat}{v x:Value}{R S:List (Nat->Int)}(h:OwnRows 36 base w v R)(C:RowsAt .i64 36 w x S)(d:0<S.length)(B:R.length+S.length<=1000000000000)(E:base<=w.heap.size):A1C 36 30 base w v x R S:=by
 obtain⟨i,J,Q,j,X⟩:=info_parts (show(Tryz.prog.info? 36).map (λi=>(i.zero,i.size,i.bytes))=some (some (.agg (c8 λ_=>0)),8,64)by kernel_rfl);obtain⟨A,c,rfl,F,G,W⟩:=C.open_;obtain⟨b,o,rfl,V,N⟩:=W d
 have Y:∀(q:Nat) (u:Value),(rl S)[q]? = some u->w.cell? ((⟨b,o,none⟩:Addr).add q)=some u:=by
  intro q u I;have k:q<S.length*8:=by rw[<-Io];exact(Yae.1 I).1
  have e:q=q/8*8+q%8:=by omega
  have H:=A09 S (q/8) (q%8) ZbG ZbG;rw[<-e,I]at H;have y:o+q=o+q/8*8+q%8:=by omega
  rw[H,A0L,y];exact N (q/8) (q%8) ZbG ZbG
 obtain ⟨K, M, n, P, T, _⟩ := run_append_own (P := prog) w base 30 30 36 i _ 8 64 underlying30 J Q j X rfl ZbG
  v R.length (rl R) h ⟨b,o,none⟩ S.length c (rl S) (Io S) Y (λu I=>A9e I) Zjd ZbG E
 have O:OwnRows 36 base M K (R++S):=by
  unfold OwnRows;rw[Yaa,A2T];exact P
 obtain⟨A,L,rfl⟩:=O.form;rw[Yaa]at n O;exact⟨A,L,M,n,O,T⟩
def NQ(R:List (Nat->Int))(w:World)(e:Ending)(M:World):Prop:=
 ∃(A:Option Addr) (c:Nat),e=.returned (.slice A R.length c)/\OwnRows 36 w.heap.size M (.slice A R.length c) R/\Ext w M
theorem Ext.grown'{a w M:World}{row:Option Nat}(h:Ext a w)(T:w.grownBy M row)(V:∀k,row=some k->a.heap.size<=k):Ext a M:=Below.grown h T h.size V
def Ea(k:Nat)(i:Nat):Int:=if i=k then -1 else 0
def Gf:Nat->List (Nat->Int)
 |0=>[]
 |k+1=>Ea (k+1)::Gf k
def revRows:List (Nat->Int):=BW 255::Gf 7
theorem PS(a:Nat->Int)(w:World)(h:In8 a 0 65535) :
  Calls prog 298 #[.agg #[.int .i64 (a 0),.int .i64 (a 1),.int .i64 (a 2),.int .i64 (a 3),.int .i64 (a 4),.int .i64 (a 5),.int .i64 (a 6),.int .i64 (a 7)]] w λe M=>e=.returned (.bool true)/\Ext w M:=by
 replace h:=Af h;go_enter func298,ntmps298;go_wp2;go_loopw [6] (λi wr=>∃k:Nat,k<=8/\i=.int .i64 k/\Hid (Ext w wr)) (λi _=>8-(intOf i).toNat)
 case atStart=>exact⟨0,by omega,rfl,(Ext.refl _).alloc _⟩
 case round=>
  obtain⟨k,B,rfl,Q⟩:=hrel;by_cases O:k<8
  .have C:=λW=>GJ a k O W
   have T:=h.out k O;generalize a k=x at *;have q:decide (x<0)=false:=ZiB
   have A:decide (65535<x)=false:=ZiB
   go_wp2;exact⟨⟨k+1,O,by simp,Q⟩,by simp[intOf];omega⟩
  .exact ZaC
theorem VQ(a:Nat->Int)(w:World)(h:¬In8 a 0 65535) :
  Calls prog 298 #[.agg #[.int .i64 (a 0),.int .i64 (a 1),.int .i64 (a 2),.int .i64 (a 3),.int .i64 (a 4),.int .i64 (a 5),.int .i64 (a 6),.int .i64 (a 7)]] w λe M=>e=.returned (.bool false)/\Ext w M:=by
 replace h:=Af h;go_enter func298,ntmps298;go_wp2;go_loopw [6] (λi wr=>∃k:Nat,k<=8/\i=.int .i64 k/\Hid (Ext w wr/\∀i,i<k->0<=a i/\a i<=65535)) (λi _=>8-(intOf i).toNat)
 case atStart=>exact⟨0,by omega,rfl,(Ext.refl _).alloc _,λi J=>by omega⟩
 case round=>
  obtain⟨k,B,rfl,Q⟩:=hrel;by_cases O:k<8
  .have C:=λW=>GJ a k O W
   have Z:Hid (0<=a k/\a k<=65535->∀i,i<k+1->0<=a i/\a i<=65535):=λh i J=>by
    by_cases e:i=k
    .rw [e];exact h
    .exact Q.out.2 i ZbG
   generalize a k=x at *;by_cases q:x<0
   .have p:decide (x<0)=true:=Zjz
    go_wp2;go_ret;exact⟨rfl,Q.out.1⟩
   .have p:decide (x<0)=false:=Zjz
    by_cases A:65535<x
    .have E:decide (65535<x)=true:=by simpa using A
     go_wp2;go_ret;exact⟨rfl,Q.out.1⟩
    .have E:decide (65535<x)=false:=by simpa using A
     go_wp2;exact⟨⟨k+1,O,by simp,Q.out.1,Z.out ⟨by omega,by omega⟩⟩,by simp[intOf];omega⟩
  .obtain rfl:k=8:=by omega
   exact absurd Q.out.2 h.out
def Qe(a b:Nat->Int)(k i:Nat):Int:=if i<k then a i+b i else a i
def CT(a b:Nat->Int)(i:Nat):Int:=a i+b i
theorem A3g(a b:Nat->Int)(w:World)(l:In8 a 0 65535)(E:In8 b 0 65535)(h:In8 (CT a b) 0 65535) :
  Calls prog 323 #[.agg #[.int .i64 (a 0),.int .i64 (a 1),.int .i64 (a 2),.int .i64 (a 3),.int .i64 (a 4),.int .i64 (a 5),.int .i64 (a 6),.int .i64 (a 7)],.agg #[.int .i64 (b 0),.int .i64 (b 1),.int .i64 (b 2),.int .i64 (b 3),.int .i64 (b 4),.int .i64 (b 5),.int .i64 (b 6),.int .i64 (b 7)]] w λe M=>e=.returned (.tuple #[.agg #[.int .i64 (CT a b 0),.int .i64 (CT a b 1),.int .i64 (CT a b 2),.int .i64 (CT a b 3),.int .i64 (CT a b 4),.int .i64 (CT a b 5),.int .i64 (CT a b 6),.int .i64 (CT a b 7)],.int .i64 0])/\Ext w M:=by
 replace h:=Af h;replace l:=Af l;replace E:=Af E;go_enter func323,ntmps323;go_wp2;go_loopw [7] (λi wr=>∃k:Nat,k<=8/\i=.int .i64 k/\Hid (Blk wr w.heap.size 112 (c8 (Qe a b k))/\Blk wr (w.heap.size+1) 112 (c8 b)/\Blk wr (w.heap.size+2) 112 (c8 (λ_=>0))/\Ext w wr)) (λi _=>8-(intOf i).toNat)
 case atStart=>exact⟨0,by omega,rfl,((Blk.new _ _ _).alloc _).alloc _,(EQ _ _ ZbV).alloc _,EQ _ _ ZbV,(((Ext.refl _).alloc _).alloc _).alloc _⟩
 case round=>
  obtain⟨k,B,rfl,W⟩:=hrel;by_cases O:k<8
  .have C:wr.cell? ⟨w.heap.size,k,none⟩=some (.int .i64 (a k)):=by
    rw[W.out.1.at8 O];simp[Qe]
   have u:=W.out.1.frozen k;have N:=W.out.2.1.at8 O;have j:=l.out k O;have I:=E.out k O
   have F:Hid (Blk (wr.setCell ⟨w.heap.size,k,none⟩ (.int .i64 (a k+b k))) w.heap.size 112 (c8 (Qe a b (k+1)))):=by
    refine W.out.1.set8' O _ (by simp[Qe]) λi J G=>?_;by_cases q:i<k
    .simp [Qe,q,show i<k+1 by omega]
    .simp [Qe,q,show¬i<k+1 by omega]
   generalize a k=x at *;generalize b k=y at *;go_wp2;go_region;go_wp2;exact⟨⟨k+1,O,by simp,F.out.drew,(W.out.2.1.far ZbZ _).drew,(W.out.2.2.1.far ZbZ _).drew,(W.out.2.2.2.set (p:=⟨w.heap.size,k,none⟩) (Yah _) _).drew⟩,by simp[intOf];omega⟩
  .obtain rfl:k=8:=by omega
   have p:Blk wr w.heap.size 112 (c8 (CT a b)):=by
    rw[<-NI (a:=Qe a b 8) λi J=>by simp[Qe,CT,J]];exact W.out.1
   have r:(wr).cell? ⟨w.heap.size,0,none⟩=some (.int .i64 (CT a b 0)):=(p).cell 0;have U:(wr).cell? ⟨w.heap.size,1,none⟩=some (.int .i64 (CT a b 1)):=(p).cell 1;have S:(wr).cell? ⟨w.heap.size,2,none⟩=some (.int .i64 (CT a b 2)):=(p).cell 2;have m:(wr).cell? ⟨w.heap.size,3,none⟩=some (.int .i64 (CT a b 3)):=(p).cell 3;have Z:(wr).cell? ⟨w.heap.size,4,none⟩=some (.int .i64 (CT a b 4)):=(p).cell 4;have c:(wr).cell? ⟨w.heap.size,5,none⟩=some (.int .i64 (CT a b 5)):=(p).cell 5;have f:(wr).cell? ⟨w.heap.size,6,none⟩=some (.int .i64 (CT a b 6)):=(p).cell 6;have n:(wr).cell? ⟨w.heap.size,7,none⟩=some (.int .i64 (CT a b 7)):=(p).cell 7;go_wp2_with fail;refine(PS _ _ h.out).mono ?_;rintro e g ⟨rfl,L⟩;have V:=p.ext L;have A:=W.out.2.2.1.ext L;clear r U S m Z c f n;have r:(g).cell? ⟨w.heap.size,0,none⟩=some (.int .i64 (CT a b 0)):=(V).cell 0;have U:(g).cell? ⟨w.heap.size,1,none⟩=some (.int .i64 (CT a b 1)):=(V).cell 1;have S:(g).cell? ⟨w.heap.size,2,none⟩=some (.int .i64 (CT a b 2)):=(V).cell 2;have m:(g).cell? ⟨w.heap.size,3,none⟩=some (.int .i64 (CT a b 3)):=(V).cell 3;have Z:(g).cell? ⟨w.heap.size,4,none⟩=some (.int .i64 (CT a b 4)):=(V).cell 4;have c:(g).cell? ⟨w.heap.size,5,none⟩=some (.int .i64 (CT a b 5)):=(V).cell 5;have f:(g).cell? ⟨w.heap.size,6,none⟩=some (.int .i64 (CT a b 6)):=(V).cell 6;have n:(g).cell? ⟨w.heap.size,7,none⟩=some (.int .i64 (CT a b 7)):=(V).cell 7;have d:(g).cell? ⟨w.heap.size+2,0,none⟩=some (.int .i64 0):=(A).cell 0;have s:(g).cell? ⟨w.heap.size+2,1,none⟩=some (.int .i64 0):=(A).cell 1;have Y:(g).cell? ⟨w.heap.size+2,2,none⟩=some (.int .i64 0):=(A).cell 2;have t:(g).cell? ⟨w.heap.size+2,3,none⟩=some (.int .i64 0):=(A).cell 3;have v:(g).cell? ⟨w.heap.size+2,4,none⟩=some (.int .i64 0):=(A).cell 4;have z:(g).cell? ⟨w.heap.size+2,5,none⟩=some (.int .i64 0):=(A).cell 5;have H:(g).cell? ⟨w.heap.size+2,6,none⟩=some (.int .i64 0):=(A).cell 6;have P:(g).cell? ⟨w.heap.size+2,7,none⟩=some (.int .i64 0):=(A).cell 7;have Q:=(A).frozen 0;have K:=(A).frozen 1;have o:=(A).frozen 2;have X:=(A).frozen 3;have R:=(A).frozen 4;have T:=(A).frozen 5;have z6:=(A).frozen 6;have z7:=(A).frozen 7;replace A:=Af A;replace V:=Af V;replace p:=Af p;go_wp2;refine bodyPost_ret (v:=.tuple #[.agg #[.int .i64 (CT a b 0),.int .i64 (CT a b 1),.int .i64 (CT a b 2),.int .i64 (CT a b 3),.int .i64 (CT a b 4),.int .i64 (CT a b 5),.int .i64 (CT a b 6),.int .i64 (CT a b 7)],.int .i64 0]) (by simp[results,Tryz.results323,go_sem,d,s,Y,t,v,z,H,P]) rfl ⟨rfl,?_⟩;exact(W.out.2.2.2.trans L).put8 (b:=w.heap.size+2) ZbG (CT a b)
theorem A88:∀m:Nat,m<256->∀k:Nat,k<8->bits BinOp.or IntKind.u8 (m:Int) (2^k)=(m ||| 2^k:Nat):=ZjL
def suppTo(a:Nat->Int):Nat->Nat
 |0=>0
 |k+1=>if 0<a k then suppTo a k |||2^k else suppTo a k
theorem JF(a:Nat->Int):∀k,suppTo a k<2^k
 |0=>by simp[suppTo]
 |k+1=>by
  have v:=JF a k;have A:2^k<2^(k+1):=Nat.pow_lt_pow_right ZbG ZbG;rw[suppTo];split
  .exact Yeu ZbG A
  .omega
theorem Rr(a:Nat->Int):∀k i,i<k->(suppTo a k).testBit i=decide (0<a i)
 |0,i,h=>by omega
 |k+1,i,h=>by
  have I:=JF a k;rw[suppTo];by_cases e:i=k
  .subst e
   split
   .rename_i q;rw[YeI,Nat.testBit_two_pow_self,Bool.or_true];simp[q]
   .rename_i q;rw[Nat.testBit_lt_two_pow I];simp[q]
  .have v:=Rr a k i ZbG
   split
   .rw [YeI,Nat.testBit_two_pow_of_ne (λh=>e h.symm),Bool.or_false,v]
   .exact v
theorem YY(a:Nat->Int)(w:World) :
  Calls prog 299 #[.agg #[.int .i64 (a 0),.int .i64 (a 1),.int .i64 (a 2),.int .i64 (a 3),.int .i64 (a 4),.int .i64 (a 5),.int .i64 (a 6),.int .i64 (a 7)]] w λe M=>e=.returned (.int .u8 (suppTo a 8))/\Ext w M:=by
 go_enter func299,ntmps299;go_wp2;go_loopw [3,7] (λs i wr=>∃k:Nat,k<=8/\i=.int .i64 k/\s=.int .u8 (suppTo a k)/\Hid (Ext w wr)) (λ_ i _=>8-(intOf i).toNat)
 case atStart=>exact ZjK
 case round=>
  obtain⟨k,B,rfl,rfl,Q⟩:=hrel;by_cases O:k<8
  .have C:=λW=>GJ a k O W
   have E:=JF a k;have F:suppTo a k<256:=Yaq E (Ybn (n:=2) ZbG (show k<=8 by omega));clear E;have Z:Hid (suppTo a (k+1)=if 0<a k then suppTo a k ||| 2^k else suppTo a k):=rfl;generalize suppTo a k=s at *;generalize a k=x at *;by_cases q:0<x
   .have u:=Z.out
    rw[Yan q]at u;replace u:=Af u;clear Z
    have A:Hid ((2:Int)^k%256=2^k):=by
     rcases lt8 O with rfl | rfl | rfl | rfl | rfl | rfl | rfl | rfl<;>rfl
    go_wp2;exact⟨⟨k+1,O,by simp,by rw[u.out,A.out,A88 s F k O],Q⟩,by simp[intOf];omega⟩
   .have u:=Z.out
    rw[Yai q]at u;replace u:=Af u;clear Z;go_wp2;exact⟨⟨k+1,O,by simp,by rw[u.out],Q⟩,by simp[intOf];omega⟩
  .exact ZaC
theorem Abb:∀m:Nat,m<256->∀k:Nat,k<8->(bits BinOp.and IntKind.u8 ((m:Int)/2^k) 1==1)=m.testBit k:=ZjL
theorem Aag(m k:Nat)(w:World)(x:m<256)(B:k<8) :
  Calls prog 232 #[.int .u8 m,.int .i64 k] w λe M=>e=.returned (.bool (m.testBit k))/\w=M:=by
 go_enter func232,ntmps232;go_wp2;go_ret;exact⟨by rw[Abb m x k B];rfl,rfl⟩
def KP(i:Nat)(n:Int)(j:Nat):Int:=if j=i then n else 0
def cb8(s:Nat->Bool):Array Value:=#[.bool (s 0),.bool (s 1),.bool (s 2),.bool (s 3),.bool (s 4),.bool (s 5),.bool (s 6),.bool (s 7)]
theorem A84(s:Nat->Bool)(k:Nat)(h:k<8):(cb8 s)[k]? = some (.bool (s k)):=by
 rcases lt8 h with rfl | rfl | rfl | rfl | rfl | rfl | rfl | rfl<;>rfl
theorem Pm{a b:Nat->Bool}(h:∀i,i<8->a i=b i):cb8 a=cb8 b:=by
 simp only[cb8,h 0 ZbG,h 1 ZbG,h 2 ZbG,h 3 ZbG,h 4 ZbG,h 5 ZbG,h 6 ZbG,h 7 ZbG]
theorem A83(a:Nat->Bool)(k:Nat)(v:Bool)(h:k<8):(cb8 a).setIfInBounds k (.bool v)=cb8 (λi=>if i=k then v else a i):=by
 rcases lt8 h with rfl | rfl | rfl | rfl | rfl | rfl | rfl | rfl<;>rfl
theorem Blk.atb{s:Nat->Bool}(h:Blk w n t (cb8 s))(B:b<8):w.cell? ⟨n,b,none⟩=some (.bool (s b)):=by
 rw[h.cell,A84 s b B]
theorem Blk.setb{a C:Nat->Bool}(h:Blk w n t (cb8 a))(B:b<8)(v:Bool)(q:C b=v)(A:∀i,i<8->i≠b->C i=a i):Blk (w.setCell ⟨n,b,none⟩ (.bool v)) n t (cb8 C):=by
 rw[show cb8 C=(cb8 a).setIfInBounds b (.bool v)by
  rw[A83 a b v B];refine Pm λi J=>?_;by_cases e:i=b
  .rw [Yan e,e,q]
  .rw [Yai e,A i J e]]
 exact h.set b _
def seenTo(R:List (Nat->Int)):Nat->Nat->Bool
 |0,_=>false
 |k+1,j=>seenTo R k j||(FT R k j != 0)
def Hx(R:List (Nat->Int))(k j i:Nat):Bool:=if i<j then seenTo R (k+1) i else seenTo R k i
def Zs(R:List (Nat->Int))(k j:Nat):Prop:=-1000<=FT R k j/\FT R k j<=1000/\(FT R k j<0->seenTo R k j=true)
def OValid(R:List (Nat->Int)):Prop:=R.length<=24/\∀k j,k<R.length->j<8->Zs R k j
open Classical in
noncomputable def ovB (R:List (Nat->Int)):Bool:=decide (OValid R)
theorem A5d(h:OValid vu):ovB vu=true:=by simp[ovB,h]
theorem Up(h:¬OValid vu):ovB vu=false:=by simp[ovB,h]
theorem OValid.in8(h:OValid vu):∀r∈vu,In8 r (-1000) 1000:=λr V i J=>by
 obtain⟨k,B,rfl⟩:=List.mem_iff_getElem.1 V;have:=h.2 k i B J;have e:FT vu k=vu[k]:=by simp[FT,Yab,Yac B]
 unfold Zs at this;rw[e]at this;exact⟨this.1,this.2.1⟩
theorem A0k(v:Value)(R:List (Nat->Int))(w:World)(h:RowsAt .i64 36 w v R) :
  Calls Tryz.prog 155 #[v] w λe w'=>e = .returned (.bool (ovB R))/\Ext w w':=by
 obtain ⟨A,c,rfl,hc,hm,hx⟩:=h.open_
 clear h
 replace hx:=Af hx
 by_cases hlen:24<R.length
 .have hF:Hid (ovB R=false):=Up λh=>by have:=h.1; omega
  go_enter Tryz.func155,Tryz.ntmps155
  go_wp2
  go_ret
  exact ⟨by rw [hF.out];rfl,Ext.refl _⟩
 .go_enter Tryz.func155,Tryz.ntmps155
  go_wp2
  go_loopw [13] (λi wr=>∃k:Nat,k<=R.length/\i = .int .i64 k/\Hid ((∀k' j,k'<k->j<8->Zs R k' j)/\Blk wr w.heap.size 315 (cb8 (seenTo R k))/\Ext w wr)) (λi _=>R.length-(intOf i).toNat)
  case atStart=>exact ⟨0,by omega,rfl,λk' j h=>by omega,Blk.new _ _ _,(Ext.refl _).alloc _⟩
  case round=>
   obtain ⟨k,hk,rfl,hI⟩:=hrel
   by_cases hlt:k<R.length
   .obtain ⟨g, o, rfl, hgl, hcl⟩:=hx.out (by omega)
    replace hcl:=Af λj (hj:j<8)=>(hI.out.2.2.cell (p:=⟨g,o+k*8+j,none⟩) hgl).trans (hcl k j hlt hj)
    have hok:Hid (∀j,Zs R k j↔-1000<=FT R k j/\FT R k j<=1000/\(FT R k j<0->seenTo R k j=true)):=λj=>Iff.rfl
    have hse:Hid (∀j,seenTo R (k+1) j=(seenTo R k j||(FT R k j != 0))):=λj=>rfl
    generalize FT R k=r at *
    have r0:(wr).cell? ⟨g,o+k*8,none⟩=some (.int .i64 (r 0)):=hcl.out 0 (by omega)
    have r1:(wr).cell? ⟨g,o+k*8+1,none⟩=some (.int .i64 (r 1)):=hcl.out 1 (by omega)
    have r2:(wr).cell? ⟨g,o+k*8+2,none⟩=some (.int .i64 (r 2)):=hcl.out 2 (by omega)
    have r3:(wr).cell? ⟨g,o+k*8+3,none⟩=some (.int .i64 (r 3)):=hcl.out 3 (by omega)
    have r4:(wr).cell? ⟨g,o+k*8+4,none⟩=some (.int .i64 (r 4)):=hcl.out 4 (by omega)
    have r5:(wr).cell? ⟨g,o+k*8+5,none⟩=some (.int .i64 (r 5)):=hcl.out 5 (by omega)
    have r6:(wr).cell? ⟨g,o+k*8+6,none⟩=some (.int .i64 (r 6)):=hcl.out 6 (by omega)
    have r7:(wr).cell? ⟨g,o+k*8+7,none⟩=some (.int .i64 (r 7)):=hcl.out 7 (by omega)
    have hB1:Hid (Blk (wr.alloc (.cells #[.int .i64 (r 0),.int .i64 (r 1),.int .i64 (r 2),.int .i64 (r 3),.int .i64 (r 4),.int .i64 (r 5),.int .i64 (r 6),.int .i64 (r 7)] 36)) w.heap.size 315 (cb8 (Hx R k 0))):=by
     have:=hI.out.2.1.alloc (.cells #[.int .i64 (r 0),.int .i64 (r 1),.int .i64 (r 2),.int .i64 (r 3),.int .i64 (r 4),.int .i64 (r 5),.int .i64 (r 6),.int .i64 (r 7)] 36)
     rw [Pm (b:=Hx R k 0) λi _=>by simp [Hx]] at this
     exact this
    have hE1:Hid (Ext w (wr.alloc (.cells #[.int .i64 (r 0),.int .i64 (r 1),.int .i64 (r 2),.int .i64 (r 3),.int .i64 (r 4),.int .i64 (r 5),.int .i64 (r 6),.int .i64 (r 7)] 36))):=hI.out.2.2.alloc _
    replace hI:=Af hI.out.1
    go_wp2
    generalize (wr.alloc (.cells #[.int .i64 (r 0),.int .i64 (r 1),.int .i64 (r 2),.int .i64 (r 3),.int .i64 (r 4),.int .i64 (r 5),.int .i64 (r 6),.int .i64 (r 7)] 36))=w2 at *
    clear r0 r1 r2 r3 r4 r5 r6 r7 hcl
    go_loopw [18] (λi wr=>∃j:Nat,j<=8/\i = .int .i64 j/\Hid ((∀j',j'<j->Zs R k j')/\Blk wr w.heap.size 315 (cb8 (Hx R k j))/\Ext w wr)) (λi _=>8-(intOf i).toNat)
    case atStart=>exact ⟨0,by omega,rfl,λj' h=>by omega,hB1.out,hE1.out⟩
    case round=>
     obtain ⟨j,hj,rfl,hJ⟩:=hrel
     by_cases hj8:j<8
     .have hix:=λW=>TE r j hj8 W
      have xs:wr.cell? ⟨w.heap.size,j,none⟩=some (.bool (seenTo R k j)):=by rw [hJ.out.2.1.atb hj8];simp [Hx]
      have xf:=hJ.out.2.1.frozen j
      have hok1:=Af (hok.out j)
      have hse1:=Af (hse.out j)
      have hbad:Hid (¬Zs R k j->ovB R=false):=λhn=>Up λhv=>hn (hv.2 k j hlt hj8)
      have hgood:Hid (Zs R k j->∀j',j'<j+1->Zs R k j'):=λhg j' h'=>by
       by_cases e:j'=j
       .rw [e];exact hg
       .exact hJ.out.1 j' (by omega)
      have hset:Hid (∀v,v=seenTo R (k+1) j->Blk (wr.setCell ⟨w.heap.size,j,none⟩ (.bool v)) w.heap.size 315 (cb8 (Hx R k (j+1)))):=λv hv=>by
       refine hJ.out.2.1.setb hj8 _ (by simp [Hx,hv]) λi hi hne=>?_
       by_cases h1:i<j
       .simp [Hx,h1,show i<j+1 by omega]
       .simp [Hx,h1,show ¬i<j+1 by omega]
      have hE2:Hid (∀v,Ext w (wr.setCell ⟨w.heap.size,j,none⟩ (.bool v))):=λv=>hJ.out.2.2.set (p:=⟨w.heap.size,j,none⟩) (Nat.le_refl _) _
      have hE0:Hid (Ext w wr):=hJ.out.2.2
      clear hJ
      generalize seenTo R k j=s at *
      generalize r j=x at *
      by_cases h1:x < -1000
      .have h1':decide (x < -1000)=true:=by simpa using h1
       go_wp2
       go_ret
       exact ⟨by rw [hbad.out λh=>by have:=hok1.out.1 h;omega];rfl,hE0.out⟩
      .have h1':decide (x < -1000)=false:=by simpa using h1
       by_cases h2:1000<x
       .have h2':decide (1000<x)=true:=by simpa using h2
        go_wp2
        go_ret
        exact ⟨by rw [hbad.out λh=>by have:=hok1.out.1 h;omega];rfl,hE0.out⟩
       .have h2':decide (1000<x)=false:=by simpa using h2
        by_cases h3:x<0
        .have h3':decide (x<0)=true:=by simpa using h3
         cases s with
         | false=>
          go_wp2
          go_ret
          exact ⟨by rw [hbad.out λh=>by have:=(hok1.out.1 h).2.2 h3;cases this];rfl,hE0.out⟩
         | true=>
          go_wp2
          exact ⟨⟨j+1,hj8,by simp,hgood.out (hok1.out.2 ⟨by omega,by omega,λ_=>rfl⟩),hset.out _ (by rw [hse1.out];rfl),hE2.out _⟩,by simp [intOf];omega⟩
        .have h3':decide (x<0)=false:=by simpa using h3
         cases s with
         | false=>
          by_cases h4:x=0
          .subst h4
           go_wp2
           exact ⟨⟨j+1,hj8,by simp,hgood.out (hok1.out.2 ⟨by omega,by omega,λh=>by omega⟩),hset.out _ (by rw [hse1.out];rfl),hE2.out _⟩,by simp [intOf];omega⟩
          .have h4':(x != 0)=true:=by simpa using h4
           go_wp2
           exact ⟨⟨j+1,hj8,by simp,hgood.out (hok1.out.2 ⟨by omega,by omega,λh=>by omega⟩),hset.out _ (by rw [hse1.out,h4'];rfl),hE2.out _⟩,by simp [intOf];omega⟩
         | true=>
          go_wp2
          exact ⟨⟨j+1,hj8,by simp,hgood.out (hok1.out.2 ⟨by omega,by omega,λh=>by omega⟩),hset.out _ (by rw [hse1.out];rfl),hE2.out _⟩,by simp [intOf];omega⟩
     .obtain rfl:j=8:=by omega
      go_wp2
      refine ⟨⟨k+1,hlt,by simp,λk' j' h1 h2=>?_,?_,hJ.out.2.2⟩,by simp [intOf];omega⟩
      .by_cases e:k'=k
       .rw [e];exact hJ.out.1 j' h2
       .exact hI.out k' j' (by omega) h2
      .have:=hJ.out.2.1
       rwa [Pm (b:=seenTo R (k+1)) λi hi=>by simp [Hx,hi]] at this
   .obtain rfl:k=R.length:=by omega
    have hT:Hid (ovB R=true):=A5d ⟨by omega,λk j h1 h2=>hI.out.1 k j h1 h2⟩
    go_wp2
    go_ret
    exact ⟨by rw [hT.out];rfl,hI.out.2.2⟩
theorem OwnRows.base_mono{base B:Nat}{v:Value}{R:List (Nat->Int)}(h:OwnRows t base w v R)(E:B<=base):OwnRows t B w v R:=by
 obtain⟨q,A⟩:=h;refine⟨q,?_⟩;rcases A with A | ⟨g,cap,cur,h3,h4,h5⟩
 .exact .inl A
 .exact .inr ⟨g,cap,cur,h3,by omega,h5⟩
theorem RC(a b:Nat->Int)(W:World):(Op.equalIn 10000 36 (.agg #[.int .i64 (a 0),.int .i64 (a 1),.int .i64 (a 2),.int .i64 (a 3),.int .i64 (a 4),.int .i64 (a 5),.int .i64 (a 6),.int .i64 (a 7)]) (.agg #[.int .i64 (b 0),.int .i64 (b 1),.int .i64 (b 2),.int .i64 (b 3),.int .i64 (b 4),.int .i64 (b 5),.int .i64 (b 6),.int .i64 (b 7)])).run prog W=.ok (LU a b) W:=by
 obtain⟨i,J⟩:∃i,Tryz.prog.info? 3=some i:=YcS.1 ZbK;have:=run_equalIn_array (P:=prog) W 9999 (t:=36) (e:=3) (n:=8) (c8 a) (c8 b) ZbK J;exact ZiX
def Mp(a b:Nat->Int)(i:Nat):Int:=a i-b i
def EH(d:Nat->Int):Nat->Nat->Int
 |_,0=>0
 |k,n+1=>if d k=0 then EH d (k+1) n else if d k<0 then -1 else 1
def HJ(r d:Nat->Int):Int:=CV (λi=>r i*d i) 8
def If:List (Nat->Int)->(Nat->Int)->Int
 |[],d=>EH d 0 8
 |r::R,d=>if HJ r d<0 then -1 else if 0<HJ r d then 1 else If R d
theorem LQ(a b:Nat->Int):∀(n k:Nat),Ji a b k n=EH (Mp a b) k n
 |0,_=>rfl
 |n+1,k=>by
  rw[Ji,EH,LQ a b n (k+1)];have e:Mp a b k=a k-b k:=rfl;generalize Mp a b k=d at *;by_cases h:a k=b k
  .rw [Yan h,Yan ZbG]
  .by_cases q:a k<b k
   .simp only[Yai h,Yan q];rw[Yai ZbG,Yan ZbG]
   .simp only[Yai h,Yai q];exact ZjM
theorem EK(a b:Nat->Int):∀R:List (Nat->Int),IF R a b=If R (Mp a b)
 |[]=>by rw[IF,Jm,Yan rfl];exact LQ a b 8 0
 |r::R=>by
  have v:=EK a b R;unfold IF at v ⊢;rw[Jm,If,<-v];show(if(if Qb r a b 8<0 then _ else _)=0 then _ else _)=if Qb r a b 8<0 then _ else if 0<Qb r a b 8 then _ else _
  by_cases q:Qb r a b 8<0
  .simp only[Yan q];rw[Yai ZbG]
  .simp only[Yai q]
   by_cases A:0<Qb r a b 8
   .simp only[Yan A];rw[Yai ZbG]
   .simp only[Yai A]
theorem Ud(a b:Nat->Int):∀k,CV (λi=>a i+b i) k=CV a k+CV b k
 |0=>rfl
 |k+1=>by simp only[CV,Ud a b k];omega
theorem Uc(a:Nat->Int):∀k,CV (λi=>-(a i)) k=-(CV a k)
 |0=>rfl
 |k+1=>by simp only[CV,Uc a k];omega
theorem IY{a b:Nat->Int}:∀{k:Nat},(∀i,i<k->a i=b i)->CV a k=CV b k
 |0,_=>rfl
 |k+1,h=>by rw[CV,CV,IY λi J=>h i ZbG,h k ZbG]
theorem A3p(r d e:Nat->Int):HJ r (CT d e)=HJ r d+HJ r e:=by
 unfold HJ;rw[<-Ud];exact IY λi _=>by simp only[CT,Int.mul_add]
theorem A3o(r d:Nat->Int):HJ r (λi=>-(d i))=-(HJ r d):=by
 unfold HJ;rw[<-Uc];exact IY λi _=>by rw[YeK]
theorem YD(h:∀i,i<8->vC i=uR i):HJ vh vC=HJ vh uR:=IY λi J=>by rw[h i J]
theorem PO{d e:Nat->Int}:∀(n k:Nat),(∀i,k<=i->i<k+n->d i=e i)->EH d k n=EH e k n
 |0,_,_=>rfl
 |n+1,k,h=>by rw[EH,EH,h k ZbG ZbG,PO n (k+1) λi q A=>h i ZbG ZbG]
theorem IE{d e:Nat->Int}(h:∀i,i<8->d i=e i):∀R:List (Nat->Int),If R d=If R e
 |[]=>PO 8 0 λi _ J=>h i ZbG
 |r::R=>by rw[If,If,YD h,IE h R]
theorem Uf(d:Nat->Int):∀(n k:Nat),EH d k n=-1\/EH d k n=0\/EH d k n=1
 |0,_=>.inr (.inl rfl)
 |n+1,k=>by
  rw[EH];split
  .exact Uf d n (k+1)
  .split
   .exact .inl rfl
   .exact .inr (.inr rfl)
theorem XQ(d:Nat->Int):∀R:List (Nat->Int),If R d=-1\/If R d=0\/If R d=1
 |[]=>Uf d 8 0
 |r::R=>by
  rw[If];split
  .exact .inl rfl
  .split
   .exact .inr (.inr rfl)
   .exact XQ d R
theorem Ug(d:Nat->Int):∀(n k:Nat),EH (λi=>-(d i)) k n=-(EH d k n)
 |0,_=>rfl
 |n+1,k=>by
  simp only[EH];rw[Ug d n (k+1)];by_cases h:d k=0
  .rw [Yan h,Yan ZbG]
  .rw [Yai h, Yai ZbG]
   by_cases q:d k<0
   .rw [Yan q,Yai ZbG];rfl
   .rw [Yai q,Yan ZbG]
theorem XR(d:Nat->Int):∀R:List (Nat->Int),If R (λi=>-(d i))=-(If R d)
 |[]=>Ug d 8 0
 |r::R=>by
  simp only[If];rw[A3o,XR d R];by_cases h:HJ r d<0
  .rw [Yan h,Yai ZbG,Yan ZbG];rfl
  .rw [Yai h]
   by_cases q:0<HJ r d
   .rw [Yan q,Yan ZbG]
   .rw [Yai q,Yai ZbG,Yai ZbG]
theorem Rz{d:Nat->Int}:∀(n k:Nat),EH d k n=0->∀i,k<=i->i<k+n->d i=0
 |0,_,_,i,q,A=>by omega
 |n+1,k,h,i,q,A=>by
  rw[EH]at h;split at h
  .rename_i B
   by_cases e:i=k
   .rw [e];exact B
   .exact Rz n (k+1) h i ZbG ZbG
  .split at h<;>omega
theorem Us{d:Nat->Int}:∀{R:List (Nat->Int)},If R d=0->∀i,i<8->d i=0
 |[],h,i,J=>Rz 8 0 h i ZbG ZbG
 |r::R,h,i,J=>by
  rw[If]at h;split at h
  .omega
  .split at h
   .omega
   .exact Us h i J
theorem Uh{d e:Nat->Int}:∀(n k:Nat),0<=EH d k n->0<=EH e k n->(0<=EH (CT d e) k n/\(0<EH d k n\/0<EH e k n->0<EH (CT d e) k n))
 |0,_,_,_=>⟨by simp[EH],by simp[EH]⟩
 |n+1,k,q,A=>by
  rw[EH]at q A;simp only[EH];have l:CT d e k=d k+e k:=rfl;by_cases B:d k=0
  .rw [Yan B]at q ⊢
   by_cases a:e k=0
   .rw [Yan a]at A ⊢
    rw[Yan ZbG];exact Uh n (k+1) q A
   .rw [Yai a]at A ⊢
    by_cases H:e k<0
    .rw [Yan H]at A;omega
    .rw [Yai H,Yai ZbG,Yai ZbG];exact ZjN
  .rw [Yai B]at q ⊢
   by_cases f:d k<0
   .rw [Yan f]at q;omega
   .by_cases a:e k=0
    .rw [Yan a,Yai f,Yai ZbG,Yai ZbG];exact ZjN
    .rw [Yai a]at A ⊢
     by_cases H:e k<0
     .rw [Yan H]at A;omega
     .rw [Yai f,Yai H,Yai ZbG,Yai ZbG];exact ZjN
theorem XS{d e:Nat->Int}:∀{R:List (Nat->Int)},0<=If R d->0<=If R e->(0<=If R (CT d e)/\(0<If R d\/0<If R e->0<If R (CT d e)))
 |[],q,A=>Uh 8 0 q A
 |r::R,q,A=>by
  rw[If]at q A;simp only[If];rw[A3p];by_cases K:HJ r d<0
  .rw [Yan K]at q;omega
  .by_cases j:HJ r e<0
   .rw [Yan j]at A;omega
   .rw [Yai K]at q ⊢
    rw[Yai j]at A ⊢;rw[Yai ZbG];by_cases Y:0<HJ r d
    .rw [Yan Y,Yan ZbG];exact ZjN
    .rw [Yai Y]at q ⊢
     by_cases F:0<HJ r e
     .rw [Yan F,Yan ZbG];exact ZjN
     .rw [Yai F]at A ⊢
      rw[Yai ZbG];exact XS q A
theorem A5h(R:List (Nat->Int))(a b:Nat->Int):IF R a b=-1\/IF R a b=0\/IF R a b=1:=by
 rw[EK];exact XQ _ _
theorem A5i(R:List (Nat->Int))(a b:Nat->Int):IF R b a=-(IF R a b):=by
 rw[EK,EK,<-XR];exact IE (λi _=>by simp only[Mp];omega) R
theorem A37:IF vu vh vC=0↔∀i,i<8->vh i=vC i:=by
 constructor
 .intro h i J
  rw[EK]at h;have:=Us h i J;simp only[Mp]at this;omega
 .intro h;exact A7q h vu
theorem A0l(q:0<=IF vu vh vC)(A:0<=IF vu vC uR):0<=IF vu vh uR/\(0<IF vu vh vC\/0<IF vu vC uR->0<IF vu vh uR):=by
 rw[EK]at q A;rw[EK vh uR vu,EK vh vC vu,EK vC uR vu];rw[IE (d:=Mp vh uR) (e:=CT (Mp vh vC) (Mp vC uR)) (λi _=>by simp only[Mp,CT];omega) vu];exact XS q A
theorem A0m{a b B z:Nat->Int}(q:∀i,i<8->a i=B i)(A:∀i,i<8->b i=z i):IF vu a b=IF vu B z:=by
 rw[EK,EK];exact IE (λi J=>by simp only[Mp,q i J,A i J]) vu
theorem A5j(R:List (Nat->Int))(a b c:Nat->Int):IF R (CT a c) (CT b c)=IF R a b:=by
 rw[EK,EK];exact IE (λi _=>by simp only[Mp,CT];omega) R
def Eqv(a b:Nat->Int):Prop:=∀i,i<8->a i=b i
theorem Eqv.refl(a:Nat->Int):Eqv a a:=λ_ _=>rfl
theorem Eqv.symm{a b:Nat->Int}(h:Eqv a b):Eqv b a:=λi J=>(h i J).symm
structure Tm where
 c:Rat
 m:Nat->Int
instance:Inhabited Tm:=⟨⟨0,λ_=>0⟩⟩
def lx(a b:Nat->Int):Int:=IF [] a b
theorem A5B(a b:Nat->Int):lx a b=-1\/lx a b=0\/lx a b=1:=A5h _ _ _
theorem A5C(a b:Nat->Int):lx b a=-(lx a b):=A5i _ _ _
theorem QN:lx vh vC=0↔Eqv vh vC:=A37
theorem A5D{a b B z:Nat->Int}(q:Eqv a B)(A:Eqv b z):lx a b=lx B z:=A0m q A
theorem Sh(q:0<lx vh vC)(A:0<lx vC uR):0<lx vh uR:=(A0l (Int.le_of_lt q) (Int.le_of_lt A)).2 (.inl q)
theorem A9v(a b c:Nat->Int):lx (CT a c) (CT b c)=lx a b:=A5j _ _ _ _
theorem UN(a b:Nat->Int):CT a b=CT b a:=by funext i;simp only[CT];omega
def Dec(P:List Tm):Prop:=P.Pairwise λs t=>0<lx s.m t.m
def Canon(P:List Tm):Prop:=Dec P/\∀t∈P,t.c≠0
def SameL:List Tm->List Tm->Prop
 |[],[]=>True
 |s::P,t::Q=>s.c=t.c/\Eqv s.m t.m/\SameL P Q
 |_,_=>False
theorem SameL.refl:∀P:List Tm,SameL P P
 |[]=>trivial
 |t::P=>⟨rfl,Eqv.refl _,SameL.refl P⟩
theorem SameL.length:∀{P Q:List Tm},SameL P Q->P.length=Q.length
 |[],[],_=>rfl
 |_::_,_::_,h=>by simp[SameL.length h.2.2]
 |[],_::_,h=>h.elim
 |_::_,[],h=>h.elim
def Jg:List Tm->List Tm->List Tm
 |[],Q=>Q
 |s::P,[]=>s::P
 |s::P,t::Q=>
  if 0<lx s.m t.m then s::Jg P (t::Q)
  else if lx s.m t.m<0 then t::Jg (s::P) Q
  else if s.c+t.c=0 then Jg P Q else⟨s.c+t.c,s.m⟩::Jg P Q
termination_by P Q=>P.length+Q.length
theorem A29(P:List Tm):Jg P []=P:=by cases P<;>simp[Jg]
theorem Ig:∀(P Q:List Tm) (u:Tm),u∈Jg P Q->(∃s∈P,s.m=u.m)\/∃t∈Q,t.m=u.m
 |[],Q,u,h=>by simp only[Jg]at h;exact .inr ⟨u,h,rfl⟩
 |s::P,[],u,h=>by simp only[Jg]at h;exact .inl ⟨u,h,rfl⟩
 |s::P,t::Q,u,h=>by
  rw[Jg]at h
  have T:((∃x∈P,x.m=u.m)\/∃x∈Q,x.m=u.m)->(∃x∈s::P,x.m=u.m)\/∃x∈t::Q,x.m=u.m:=λh=>by
   rcases h with⟨x,C,e⟩ | ⟨x,C,e⟩
   .exact .inl ⟨x,by simp[C],e⟩
   .exact .inr ⟨x,by simp[C],e⟩
  split at h
  .rcases YaM.1 h with rfl | h
   .exact .inl ⟨u,by simp,rfl⟩
   .rcases Ig P (t::Q) u h with⟨x,C,e⟩ | h
    .exact .inl ⟨x,by simp[C],e⟩
    .exact .inr h
  .split at h
   .rcases YaM.1 h with rfl | h
    .exact .inr ⟨u,by simp,rfl⟩
    .rcases Ig (s::P) Q u h with h | ⟨x,C,e⟩
     .exact .inl h
     .exact .inr ⟨x,by simp[C],e⟩
   .split at h
    .exact T (Ig P Q u h)
    .rcases YaM.1 h with rfl | h
     .exact .inl ⟨s,by simp,rfl⟩
     .exact T (Ig P Q u h)
termination_by P Q=>P.length+Q.length
theorem JN:∀{P Q:List Tm},Canon P->Canon Q->Canon (Jg P Q)
 |[],Q,_,h=>by simp only[Jg];exact h
 |s::P,[],h,_=>by simp only[Jg];exact h
 |s::P,t::Q,M,i=>by
  have E:=Ydv.1 M.1;have J:=Ydv.1 i.1;have U:Canon P:=⟨E.2,λu S=>M.2 u (by simp[S])⟩;have G:Canon Q:=⟨J.2,λu S=>i.2 u (by simp[S])⟩
  have n:∀{x:Tm} {L:List Tm},x.c≠0->Canon L->(∀u∈L,0<lx x.m u.m)->Canon (x::L):=λF m C=>⟨Ydv.2 ⟨C,m.1⟩,λu S=>by
   rcases YaM.1 S with rfl | S
   .exact F
   .exact m.2 u S⟩
  rw[Jg];split
  .rename_i q
   refine n (M.2 s ZbV) (JN U i) λu S=>?_;rcases Ig P (t::Q) u S with⟨x,C,e⟩ | ⟨x,C,e⟩
   .rw [<-e];exact E.1 x C
   .rw [<-e]
    rcases YaM.1 C with rfl | C
    .exact q
    .exact Sh q (J.1 x C)
  .split
   .rename_i q A
    have B:0<lx t.m s.m:=by rw[A5C];omega
    refine n (i.2 t ZbV) (JN M G) λu S=>?_;rcases Ig (s::P) Q u S with⟨x,C,e⟩ | ⟨x,C,e⟩
    .rw [<-e]
     rcases YaM.1 C with rfl | C
     .exact B
     .exact Sh B (E.1 x C)
    .rw [<-e];exact J.1 x C
   .rename_i q A
    have a:Eqv s.m t.m:=QN.1 (by rcases A5B s.m t.m with h | h | h<;>omega);split
    .exact JN U G
    .rename_i K
     refine n K (JN U G) λu S=>?_;rcases Ig P Q u S with⟨x,C,e⟩ | ⟨x,C,e⟩
     .rw [<-e];exact E.1 x C
     .rw [<-e,A5D a (Eqv.refl _)];exact J.1 x C
termination_by P Q=>P.length+Q.length
theorem Kl:∀P Q:List Tm,(Jg P Q).length<=P.length+Q.length
 |[],Q=>by simp only[Jg];simp
 |s::P,[]=>by simp only[Jg];simp
 |s::P,t::Q=>by
  rw[Jg];have q:=Kl P (t::Q);have A:=Kl (s::P) Q;have K:=Kl P Q;simp only[Yay]at q A K ⊢;split
  .exact ZiR
  .split
   .exact ZiR
   .split
    .omega
    .exact ZiR
termination_by P Q=>P.length+Q.length
theorem A0h{m i:Nat}:BW m i=if m.testBit i then 1 else 0:=by
 unfold BW;rw[Nat.testBit,Yeq];have A:m/2^i%2=0\/m/2^i%2=1:=by omega
 rcases A with h | h
 .rw [h];simp[h]
 .rw [h];simp[h]
theorem Iz:∀k,(Gf k).length=k
 |0=>rfl
 |k+1=>by rw[Gf,Yay,Iz k]
theorem IA:revRows.length=8:=by rw[revRows,Yay,Iz]
