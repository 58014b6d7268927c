/- Part 4. No condition. -/
import Derived.BigQuiet
import Derived.ChangeAlike
import Derived.ChangeKeysEq
import Derived.Deep.Cut
import Derived.Deep.CutBlock
import Derived.Deep.DeepCutAuto
import Derived.Deep.LoopGhost
import Derived.Deep.QuietTactic
import Derived.Deep.RegionHeld3
import Derived.Laws.AppendOwnNone
import Derived.RegionTactic
import Derived.WalkKit
import Derived.WalkLawsBesides
import Derived.WalkSpells
import Derived.Test.YtcikkglcoeedlaaGreatBk1
set_option linter.unusedSimpArgs false
set_option linter.unusedVariables false
set_option maxRecDepth 100000
set_option maxHeartbeats 1600000
namespace Go.Proofs.YtcikkglcoeedlaaGreat
open _root_.Go.Proofs.Tryz
open Go.RowKit
variable{o:IntKind}{vx:List (Nat->Int)}{n b:Nat}{vh vD uS:Nat->Int}{t:TypeId}{w q:World}
def c8(a:Nat->Int):Array Value:=#[.int .i64 (a 0),.int .i64 (a 1),.int .i64 (a 2),.int .i64 (a 3),.int .i64 (a 4),.int .i64 (a 5),.int .i64 (a 6),.int .i64 (a 7)]
theorem A5N(a:Nat->Int)(k:Nat)(h:k<8):(c8 a)[k]? = some (.int .i64 (a k)):=by
 match k,h with
 |0,_=>rfl
 |1,_=>rfl
 |2,_=>rfl
 |3,_=>rfl
 |4,_=>rfl
 |5,_=>rfl
 |6,_=>rfl
 |7,_=>rfl
theorem lt8(h:n<8):n=0\/n=1\/n=2\/n=3\/n=4\/n=5\/n=6\/n=7:=by omega
theorem GJ(a:Nat->Int)(k:Nat)(h:k<8)(W:World):(Instr.index 112 (.agg #[.int .i64 (a 0),.int .i64 (a 1),.int .i64 (a 2),.int .i64 (a 3),.int .i64 (a 4),.int .i64 (a 5),.int .i64 (a 6),.int .i64 (a 7)]) (.int .i64 (k:Int))).run prog W=.ok (.int .i64 (a k)) W:=by
 rcases lt8 h with rfl | rfl | rfl | rfl | rfl | rfl | rfl | rfl<;>kernel_rfl
theorem Th(a:Nat->Int)(k:Nat)(h:k<8)(W:World):(Instr.index 36 (.agg #[.int .i64 (a 0),.int .i64 (a 1),.int .i64 (a 2),.int .i64 (a 3),.int .i64 (a 4),.int .i64 (a 5),.int .i64 (a 6),.int .i64 (a 7)]) (.int .i64 (k:Int))).run prog W=.ok (.int .i64 (a k)) W:=by
 rcases lt8 h with rfl | rfl | rfl | rfl | rfl | rfl | rfl | rfl<;>kernel_rfl
theorem A1Q(a:Nat->Int)(k:Nat)(h:k<8)(W:World):(part 3 (c8 a) (k*Tryz.prog.cellsOf 3)).run prog W=.ok (.int .i64 (a k)) W:=by
 rcases lt8 h with rfl | rfl | rfl | rfl | rfl | rfl | rfl | rfl<;>kernel_rfl
def Om(a b:Nat->Int):Bool:=(List.range 8).all λi=>a i==b i
theorem IH:Om vh vD=true↔∀i,i<8->vh i=vD i:=by simp[Om]
theorem Kd(d:Nat)(a b:Nat->Int)(W:World):∀p:List Nat,(∀i∈p,i<8)->(Op.eqItems (d+1) 3 (Tryz.prog.cellsOf 3) (c8 a) (c8 b) p).run prog W=.ok (p.all λi=>a i==b i) W
 |[],_=>by simp[Op.eqItems]
 |i::p,h=>by
  have u:=Kd d a b W p λj A=>h j (by simp[A]);have K:=h i ZbS;simp only[Op.eqItems,Sem.run_bind,A1Q a i K,A1Q b i K,Result.andThen_ok,run_equalIn_int W d 3 .i64 .i64 _ _ (show Tryz.prog.underlying 3=some (.int .i64)by kernel_rfl)];cases I:a i==b i
  .simp [I]
  .simp only[Bool.not_true,Bool.false_eq_true,if_false,u,List.all_cons,I,Bool.true_and]
theorem IX(a b:Nat->Int)(W:World):(Op.equalIn 10000 112 (.agg #[.int .i64 (a 0),.int .i64 (a 1),.int .i64 (a 2),.int .i64 (a 3),.int .i64 (a 4),.int .i64 (a 5),.int .i64 (a 6),.int .i64 (a 7)]) (.agg #[.int .i64 (b 0),.int .i64 (b 1),.int .i64 (b 2),.int .i64 (b 3),.int .i64 (b 4),.int .i64 (b 5),.int .i64 (b 6),.int .i64 (b 7)])).run prog W=.ok (Om a b) W:=by
 obtain⟨i,K⟩:∃i,Tryz.prog.info? 3=some i:=Ycw.1 ZbI;have:=run_equalIn_array (P:=prog) W 9999 (t:=112) (e:=3) (n:=8) (c8 a) (c8 b) ZbI K;exact ZiM
theorem Aa8(a:Nat->Int)(k:Nat)(v:Int)(h:k<8):(c8 a).setIfInBounds k (.int .i64 v)=c8 (λi=>if i=k then v else a i):=by
 match k,h with
 |0,_=>rfl
 |1,_=>rfl
 |2,_=>rfl
 |3,_=>rfl
 |4,_=>rfl
 |5,_=>rfl
 |6,_=>rfl
 |7,_=>rfl
theorem Blk.at8{a:Nat->Int}(h:Blk w n t (c8 a))(C:b<8):w.cell? ⟨n,b,none⟩=some (.int .i64 (a b)):=by
 rw[h.cell,A5N a b C]
theorem Blk.set8(h:Blk w n t (c8 vh))(C:b<8)(v:Int):Blk (w.setCell ⟨n,b,none⟩ (.int .i64 v)) n t (c8 (λi=>if i=b then v else vh i)):=by
 rw[<-Aa8 vh b v C];exact h.set b _
def CV(a:Nat->Int):Nat->Int
 |0=>0
 |k+1=>CV a k+a k
def In8(a:Nat->Int)(F K:Int):Prop:=∀i,i<8->F<=a i/\a i<=K
theorem In8.mono{a:Nat->Int}{F K M G:Int}(h:In8 a F K)(A:M<=F)(B:K<=G):In8 a M G:=λi K=>by have:=h i K;omega
theorem IV{a:Nat->Int}{F K:Int}(h:In8 a F K):∀k,k<=8->F*k<=CV a k/\CV a k<=K*k
 |0,_=>by simp[CV]
 |k+1,C=>by
  have u:=IV h k ZbD;have:=h k ZbD;simp only[CV,Ycq,Int.mul_add];omega
theorem A1h(a:Nat->Int)(w:World)(h:In8 a (-1000000) 1000000) :
  Calls prog 289 #[.agg #[.int .i64 (a 0),.int .i64 (a 1),.int .i64 (a 2),.int .i64 (a 3),.int .i64 (a 4),.int .i64 (a 5),.int .i64 (a 6),.int .i64 (a 7)]] w λe N=>e=.returned (.int .i64 (CV a 8))/\Ext w N:=by
 replace h:=Af h;go_enter func289,ntmps289;go_wp2;go_loopw [3,7] (λs i wr=>∃k:Nat,k<=8/\i=.int .i64 k/\s=.int .i64 (CV a k)/\Hid (Ext w wr)) (λ_ i _=>8-(intOf i).toNat)
 case atStart=>exact ZjB
 case round=>
  obtain⟨k,C,rfl,rfl,V⟩:=hrel;by_cases Q:k<8
  .have E:=λW=>GJ a k Q W
   have F:=IV h.out k C;have T:=h.out k Q;have Y:CV a (k+1)=CV a k+a k:=rfl;generalize CV a k=s at *;generalize a k=x at *;replace Y:=Af Y;go_wp2;exact⟨⟨k+1,Q,by simp,by rw[Y.out],V⟩,by simp[intOf];omega⟩
  .exact Zay
def Jd(a b:Nat->Int):Nat->Nat->Int
 |_,0=>0
 |k,n+1=>if a k=b k then Jd a b (k+1) n else if a k<b k then -1 else 1
def Ih(a b:Nat->Int):Int:=Jd a b 0 8
theorem RR{a b:Nat->Int}:∀(n k:Nat),(∀i,k<=i->i<k+n->a i=b i)->Jd a b k n=0
 |0,_,_=>rfl
 |n+1,k,h=>by
  rw[Jd,Yan (h k ZbD ZbD)];exact RR n (k+1) λi A B=>h i ZbD ZbD
theorem A5m(a b:Nat->Int)(w:World) :
  Calls prog 297 #[.agg #[.int .i64 (a 0),.int .i64 (a 1),.int .i64 (a 2),.int .i64 (a 3),.int .i64 (a 4),.int .i64 (a 5),.int .i64 (a 6),.int .i64 (a 7)],.agg #[.int .i64 (b 0),.int .i64 (b 1),.int .i64 (b 2),.int .i64 (b 3),.int .i64 (b 4),.int .i64 (b 5),.int .i64 (b 6),.int .i64 (b 7)]] w λe N=>e=.returned (.int .i64 (Ih a b))/\Ext w N:=by
 have l:=λW=>IX a b W
 cases E:Om a b with
 |true=>
  rw[E]at l;go_enter func297,ntmps297;go_wp2;go_ret;refine⟨?_,((Ext.refl _).alloc _).alloc _⟩;rw[Ih,RR 8 0 λi _ h=>IH.1 E i ZbD];rfl
 |false=>
  rw[E]at l;have G:¬∀i,i<8->a i=b i:=λh=>by rw[IH.2 h]at E;cases E
  clear E;replace G:=Af G;have J:Hid (Blk ((w.alloc (.cells #[.int .i64 (a 0),.int .i64 (a 1),.int .i64 (a 2),.int .i64 (a 3),.int .i64 (a 4),.int .i64 (a 5),.int .i64 (a 6),.int .i64 (a 7)] 112)).alloc (.cells #[.int .i64 (b 0),.int .i64 (b 1),.int .i64 (b 2),.int .i64 (b 3),.int .i64 (b 4),.int .i64 (b 5),.int .i64 (b 6),.int .i64 (b 7)] 112)) w.heap.size 112 (c8 a)):=(Blk.new _ _ _).alloc _;have O:Hid (Blk ((w.alloc (.cells #[.int .i64 (a 0),.int .i64 (a 1),.int .i64 (a 2),.int .i64 (a 3),.int .i64 (a 4),.int .i64 (a 5),.int .i64 (a 6),.int .i64 (a 7)] 112)).alloc (.cells #[.int .i64 (b 0),.int .i64 (b 1),.int .i64 (b 2),.int .i64 (b 3),.int .i64 (b 4),.int .i64 (b 5),.int .i64 (b 6),.int .i64 (b 7)] 112)) (w.heap.size+1) 112 (c8 b)):=ES _ _ ZbS;have V:Hid (Ext w ((w.alloc (.cells #[.int .i64 (a 0),.int .i64 (a 1),.int .i64 (a 2),.int .i64 (a 3),.int .i64 (a 4),.int .i64 (a 5),.int .i64 (a 6),.int .i64 (a 7)] 112)).alloc (.cells #[.int .i64 (b 0),.int .i64 (b 1),.int .i64 (b 2),.int .i64 (b 3),.int .i64 (b 4),.int .i64 (b 5),.int .i64 (b 6),.int .i64 (b 7)] 112))):=((Ext.refl _).alloc _).alloc _;go_enter func297,ntmps297;go_wp2;generalize ((w.alloc (.cells #[.int .i64 (a 0),.int .i64 (a 1),.int .i64 (a 2),.int .i64 (a 3),.int .i64 (a 4),.int .i64 (a 5),.int .i64 (a 6),.int .i64 (a 7)] 112)).alloc (.cells #[.int .i64 (b 0),.int .i64 (b 1),.int .i64 (b 2),.int .i64 (b 3),.int .i64 (b 4),.int .i64 (b 5),.int .i64 (b 6),.int .i64 (b 7)] 112))=j at *;go_loopw [5] (λi wr=>∃k:Nat,k<8/\i=.int .i64 k/\Hid ((¬∀i,k<=i->i<8->a i=b i)/\Ih a b=Jd a b k (8-k)/\Blk wr w.heap.size 112 (c8 a)/\Blk wr (w.heap.size+1) 112 (c8 b)/\Ext w wr)) (λi _=>8-(intOf i).toNat)
  case atStart=>exact⟨0,by omega,rfl,λh=>G.out λi K=>h i ZbD K,rfl,J.out,O.out,V.out⟩
  case round=>
   obtain⟨k,C,rfl,F⟩:=hrel;have X:=F.out.2.2.1.at8 C;have q:=F.out.2.2.2.1.at8 C
   have Y:Hid (Jd a b k (8-k)=if a k=b k then Jd a b (k+1) (8-(k+1))else if a k<b k then -1 else 1):=by
    rw[show 8-k=8-(k+1)+1 by omega];rfl
   have f:Hid (a k=b k->k+1<8/\¬∀i,k+1<=i->i<8->a i=b i):=λh=>by
    have A:¬∀i,k+1<=i->i<8->a i=b i:=λB=>F.out.1 λi L S=>by
     by_cases e:i=k
     .rw [e];exact h
     .exact B i ZbD S
    refine⟨?_,A⟩;by_cases M:k+1<8
    .exact M
    .exact absurd (λi L S=>by omega) A
   generalize a k=x at *;generalize b k=y at *;by_cases R:x=y
   .have I:=f.out R
    have p:=Y.out;rw[Yan R]at p;replace p:=Af (F.out.2.1.trans p);have d:=I.1;replace I:=Af I.2;go_wp2;go_quiet (fail);go_wp2;exact⟨⟨k+1,d,by simp,I.out,p.out,F.out.2.2.1,F.out.2.2.2.1,F.out.2.2.2.2.drewN _⟩,by simp[intOf];omega⟩
   .have p:=Y.out
    rw[Yai R]at p;replace p:=Af (F.out.2.1.trans p);by_cases Q:x<y
    .rw [Yan Q]at p
     go_wp2;go_quiet (fail);go_wp2;go_quiet (fail);go_wp2;exact Zik
    .rw [Yai Q]at p
     go_wp2;go_quiet (fail);go_wp2;go_quiet (fail);go_wp2;exact Zik
def FX(R:List (Nat->Int))(k:Nat):Nat->Int:=R.getD k (λ_=>0)
def RowsAt(T:IntKind)(t:TypeId)(w:World)(v:Value)(R:List (Nat->Int)):Prop:=
 ∃(A:Option Addr) (c:Nat),v=.slice A R.length c/\R.length<=c/\c<=9223372036854775807 /\
  (0<R.length->∃(b o:Nat) (h:Array Value) (S:Nat×Nat),A=some ⟨b,o,none⟩/\w.heap[b]? = some (.cells h t S)/\∀k j,k<R.length->j<8->h[o+k*8+j]? = some (.int T (FX R k j)))
theorem RowsAt.open_{v:Value}(h:RowsAt o t w v vx):∃(A:Option Addr) (c:Nat),v=.slice A vx.length c/\vx.length<=c/\c<=9223372036854775807 /\
  (0<vx.length->∃(b E:Nat),A=some ⟨b,E,none⟩/\b<w.heap.size/\∀k j,k<vx.length->j<8->w.cell? ⟨b,E+k*8+j,none⟩=some (.int o (FX vx k j))):=by
 obtain⟨A,c,B,C,L,S⟩:=h;refine⟨A,c,B,C,L,λG=>?_⟩;obtain⟨b,E,I,K,n,J,g⟩:=S G;exact⟨b,E,n,Bw J,λk j F a=>(Dh J).trans (g k j F a)⟩
def PO(r a b:Nat->Int)(k:Nat):Int:=CV (λi=>r i*(a i-b i)) k
def Jh:List (Nat->Int)->(Nat->Int)->(Nat->Int)->Int
 |[],_,_=>0
 |r::R,a,b=>if PO r a b 8<0 then -1 else if 0<PO r a b 8 then 1 else Jh R a b
def IE(R:List (Nat->Int))(a b:Nat->Int):Int:=if Jh R a b=0 then Ih a b else Jh R a b
theorem Rf{a:Nat->Int}:∀{k:Nat},(∀i,i<k->a i=0)->CV a k=0
 |0,_=>rfl
 |k+1,h=>by rw[CV,Rf λi K=>h i ZbD,h k ZbD];rfl
theorem So{a b:Nat->Int}(h:∀i,i<8->a i=b i):∀R,Jh R a b=0
 |[]=>rfl
 |r::R=>by
  have:PO r a b 8=0:=Rf λi K=>by rw[h i K,Int.sub_self,Int.mul_zero]
  rw[Jh,this,Yai ZbD,Yai ZbD,So h R]
theorem A7e(h:∀i,i<8->vh i=vD i)(R:List (Nat->Int)):IE R vh vD=0:=by
 rw[IE,So h,Yan rfl,Ih,RR 8 0 λi _ K=>h i ZbD]
theorem ND{a b:Nat->Int}(h:∀i,i<8->a i=b i):c8 a=c8 b:=by
 simp only[c8,h 0 ZbD,h 1 ZbD,h 2 ZbD,h 3 ZbD,h 4 ZbD,h 5 ZbD,h 6 ZbD,h 7 ZbD]
theorem Blk.set8'{a X:Nat->Int}(h:Blk w n t (c8 a))(C:b<8)(v:Int)(A:X b=v)(B:∀i,i<8->i≠b->X i=a i):Blk (w.setCell ⟨n,b,none⟩ (.int .i64 v)) n t (c8 X):=by
 rw[show c8 X=c8 (λi=>if i=b then v else a i)from ND λi K=>by
  by_cases e:i=b
  .rw [Yan e,e,A]
  .rw [Yai e,B i K e]]
 exact h.set8 C v
def Td(a:Nat->Int)(k:Nat)(i:Nat):Int:=if i<k then a i else 0
theorem Kb{a:Nat->Int}(h:b<n):Td a n b=a b:=Yan h
theorem Qi(h:¬b<n):Td vh n b=0:=Yai h
theorem Blk.up8(h:Blk w n t (c8 (Td vh b)))(C:b<8){v:Int}(r:v=vh b):Blk (w.setCell ⟨n,b,none⟩ (.int .i64 v)) n t (c8 (Td vh (b+1))):=by
 refine h.set8' C v (by rw[Kb ZbD,r]) λi K B=>?_;by_cases A:i<b
 .rw [Kb A,Kb ZbD]
 .rw [Qi A,Qi ZbD]
theorem Blk.full8{a:Nat->Int}(h:Blk w n t (c8 (Td a 8))):Blk w n t (c8 a):=by
 rw[<-ND (a:=Td a 8) λi K=>Kb K];exact h
def put8(w:World)(b:Nat)(a:Nat->Int):World:=(((((((w.setCell ⟨b,0,none⟩ (.int .i64 (a 0))).setCell ⟨b,1,none⟩ (.int .i64 (a 1))).setCell ⟨b,2,none⟩ (.int .i64 (a 2))).setCell ⟨b,3,none⟩ (.int .i64 (a 3))).setCell ⟨b,4,none⟩ (.int .i64 (a 4))).setCell ⟨b,5,none⟩ (.int .i64 (a 5))).setCell ⟨b,6,none⟩ (.int .i64 (a 6))).setCell ⟨b,7,none⟩ (.int .i64 (a 7))
theorem Ext.put8(h:Ext w q){b:Nat}(F:w.heap.size<=b)(a:Nat->Int):Ext w (put8 q b a):=
 (((((((h.set (p:=⟨b,0,none⟩) F _).set (p:=⟨b,1,none⟩) F _).set (p:=⟨b,2,none⟩) F _).set (p:=⟨b,3,none⟩) F _).set (p:=⟨b,4,none⟩) F _).set (p:=⟨b,5,none⟩) F _).set (p:=⟨b,6,none⟩) F _).set (p:=⟨b,7,none⟩) F _
def BW(m:Nat)(i:Nat):Int:=(m >>> i%2:Nat)
def rl(R:List (Nat->Int)):List Value:=R.flatMap λa=>(c8 a).toList
theorem Vd(a:Nat->Int)(R:List (Nat->Int)):rl (a::R)=(c8 a).toList++rl R:=rfl
theorem A2F(R S:List (Nat->Int)):rl (R++S)=rl R++rl S:=by simp[rl]
theorem Io:∀R:List (Nat->Int),(rl R).length=R.length*8
 |[]=>rfl
 |a::R=>by rw[Vd,Yaa,Io R];simp[c8];omega
theorem ZZ(a:Nat->Int)(R:List (Nat->Int))(k:Nat):FX (a::R) (k+1)=FX R k:=by simp[FX]
theorem A00:∀(R:List (Nat->Int)) (k j:Nat),k<R.length->j<8->(rl R)[k*8+j]? = some (.int .i64 (FX R k j))
 |[],k,j,h,_=>by simp at h
 |a::R,0,j,_,A=>by
  rw[Vd,Yau (by simp[c8];omega),YcC,YaH,Ycr,A5N a j A];rfl
 |a::R,k+1,j,C,A=>by
  rw[Vd,Yal (by simp[c8];omega),ZZ,<-A00 R k j ZcY A];congr 1;simp[c8];omega
theorem A9e{u:Value}(h:u∈rl vx):u.oneCell'=true:=by
 simp only[rl,Yey]at h;obtain⟨a,_,S⟩:=h;simp[c8]at S;rcases S with rfl | rfl | rfl | rfl | rfl | rfl | rfl | rfl<;>rfl
def OwnRows(t:TypeId)(base:Nat)(w:World)(v:Value)(R:List (Nat->Int)):Prop:=w.ownsRow base t 8 v R.length (rl R)
theorem OwnRows.rows{base:Nat}{v:Value}{R:List (Nat->Int)}(h:OwnRows t base w v R):RowsAt .i64 t w v R:=by
 obtain⟨A,B⟩:=h;rcases B with⟨rfl,c⟩ | ⟨g,cap,cur,rfl,_,hg,hc,hm,hsz,ht⟩
 .exact ⟨none,0,by rw[c],by omega,by omega,λG=>by omega⟩
 .refine ⟨_, cap, rfl, hc, by simpa [maxLen] using hm, λ_=>⟨g, 0, cur, (0, 0), rfl, hg, λk j C a=>?_⟩⟩
  have Z:(cur.toList.take (R.length*8))[k*8+j]? = (rl R)[k*8+j]?:=by rw[ht]
  rw[YaJ,Yan ZbD,A00 R k j C a]at Z;rw[YaH];simpa using Z
theorem OwnRows.form{v:Value}(h:OwnRows t n w v vx):∃A c,v=.slice A vx.length c:=by
 obtain⟨_,B⟩:=h;rcases B with⟨rfl,C⟩ | ⟨g,cap,cur,rfl,_⟩
 .exact ⟨none,0,by rw[C]⟩
 .exact ⟨_,_,rfl⟩
theorem OwnRows.ext{base:Nat}{v:Value}{R:List (Nat->Int)}(h:OwnRows t base w v R)(b:Ext w q):OwnRows t base q v R:=by
 obtain⟨A,B⟩:=h;refine⟨A,?_⟩;rcases B with B | ⟨g,cap,cur,h3,h4,hg,h5⟩
 .exact .inl B
 .exact .inr ⟨g,cap,cur,h3,h4,(b.block (Bw hg)).trans hg,h5⟩
theorem OwnRows.blk{base g:Nat}{R:List (Nat->Int)}{c:Nat}(P:base<=g)(F:Blk w g t (rl R).toArray)(I:c=R.length)(x:R.length<=1000000000000):OwnRows t base w (.slice (some ⟨g,0,none⟩) R.length c) R:=by
 subst I;exact⟨Io R,.inr ⟨g,_,_,rfl,P,F,Yah _,by simp only[maxLen];omega,by simp[Io],by rw[List.toList_toArray,Yap (by rw[Io];omega)]⟩⟩
theorem OwnRows.base_le{base:Nat}{v:Value}{R:List (Nat->Int)}(h:OwnRows t base w v R):∀k,v.ownBlock=some k->base<=k:=by
 intro k C;obtain⟨A,B⟩:=h;rcases B with⟨rfl,_⟩ | ⟨g,cap,cur,rfl,h4,hg,h5⟩
 .cases C
 .cases C;exact h4
def A1q(t:TypeId)(n base:Nat)(w:World)(v x:Value)(R S:List (Nat->Int)):Prop:=
 ∃A c N,(Builtin.append_ #[n,n] n #[v,x]).run prog w=.ok (.slice A (R.length+S.length) c) N/\OwnRows t base N (.slice A (R.length+S.length) c) (R++S)/\w.grownBy N v.ownBlock
theorem NF{base:Nat}{v x:Value}{R S:List (Nat->Int)}(h:OwnRows 36 base w v R)(E:RowsAt .i64 36 w x S)(B:0<S.length)(f:R.length+S.length<=1000000000000)(F:base<=w.heap.size):A1q 36 30 base w v x R S:=by
 obtain⟨i,K,O,Q,d⟩:=info_parts (show(Tryz.prog.info? 36).map (λi=>(i.zero,i.size,i.bytes))=some (some (.agg (c8 λ_=>0)),8,64)by kernel_rfl);obtain⟨A,c,rfl,I,C,V⟩:=E.open_;obtain⟨b,o,rfl,j,L⟩:=V B
 have g:∀(q:Nat) (u:Value),(rl S)[q]? = some u->w.cell? ((⟨b,o,none⟩:Addr).add q)=some u:=by
  intro q u G;have l:q<S.length*8:=by rw[<-Io];exact(Yae.1 G).1
  have e:q=q/8*8+q%8:=by omega
  have t:=A00 S (q/8) (q%8) ZbD ZbD;rw[<-e,G]at t;have s:o+q=o+q/8*8+q%8:=by omega
  rw[t,A0z,s];exact L (q/8) (q%8) ZbD ZbD
 obtain ⟨Y, N, p, a, P, _⟩ := run_append_own (P := prog) w base 30 30 36 i _ 8 64 underlying30 K O Q d rfl ZbD
  v R.length (rl R) h ⟨b,o,none⟩ S.length c (rl S) (Io S) g (λu G=>A9e G) ZiS ZbD F
 have M:OwnRows 36 base N Y (R++S):=by
  unfold OwnRows;rw[Yaa,A2F];exact a
 obtain⟨A,J,rfl⟩:=M.form;rw[Yaa]at p M;exact⟨A,J,N,p,M,P⟩
def NK(R:List (Nat->Int))(w:World)(e:Ending)(N:World):Prop:=
 ∃(A:Option Addr) (c:Nat),e=.returned (.slice A R.length c)/\OwnRows 36 w.heap.size N (.slice A R.length c) R/\Ext w N
theorem Ext.grown'{a w N:World}{row:Option Nat}(h:Ext a w)(P:w.grownBy N row)(X:∀k,row=some k->a.heap.size<=k):Ext a N:=Below.grown h P h.size X
def DY(k:Nat)(i:Nat):Int:=if i=k then -1 else 0
def Gk:Nat->List (Nat->Int)
 |0=>[]
 |k+1=>DY (k+1)::Gk k
def revRows:List (Nat->Int):=BW 255::Gk 7
theorem PF(a:Nat->Int)(w:World)(h:In8 a 0 65535) :
  Calls prog 298 #[.agg #[.int .i64 (a 0),.int .i64 (a 1),.int .i64 (a 2),.int .i64 (a 3),.int .i64 (a 4),.int .i64 (a 5),.int .i64 (a 6),.int .i64 (a 7)]] w λe N=>e=.returned (.bool true)/\Ext w N:=by
 replace h:=Af h;go_enter func298,ntmps298;go_wp2;go_loopw [6] (λi wr=>∃k:Nat,k<=8/\i=.int .i64 k/\Hid (Ext w wr)) (λi _=>8-(intOf i).toNat)
 case atStart=>exact⟨0,by omega,rfl,(Ext.refl _).alloc _⟩
 case round=>
  obtain⟨k,C,rfl,V⟩:=hrel;by_cases Q:k<8
  .have E:=λW=>GJ a k Q W
   have T:=h.out k Q;generalize a k=x at *;have A:decide (x<0)=false:=Zip
   have B:decide (65535<x)=false:=Zip
   go_wp2;exact⟨⟨k+1,Q,by simp,V⟩,by simp[intOf];omega⟩
  .exact Zay
theorem VE(a:Nat->Int)(w:World)(h:¬In8 a 0 65535) :
  Calls prog 298 #[.agg #[.int .i64 (a 0),.int .i64 (a 1),.int .i64 (a 2),.int .i64 (a 3),.int .i64 (a 4),.int .i64 (a 5),.int .i64 (a 6),.int .i64 (a 7)]] w λe N=>e=.returned (.bool false)/\Ext w N:=by
 replace h:=Af h;go_enter func298,ntmps298;go_wp2;go_loopw [6] (λi wr=>∃k:Nat,k<=8/\i=.int .i64 k/\Hid (Ext w wr/\∀i,i<k->0<=a i/\a i<=65535)) (λi _=>8-(intOf i).toNat)
 case atStart=>exact⟨0,by omega,rfl,(Ext.refl _).alloc _,λi K=>by omega⟩
 case round=>
  obtain⟨k,C,rfl,V⟩:=hrel;by_cases Q:k<8
  .have E:=λW=>GJ a k Q W
   have Y:Hid (0<=a k/\a k<=65535->∀i,i<k+1->0<=a i/\a i<=65535):=λh i K=>by
    by_cases e:i=k
    .rw [e];exact h
    .exact V.out.2 i ZbD
   generalize a k=x at *;by_cases A:x<0
   .have F:decide (x<0)=true:=by simpa using A
    go_wp2;go_ret;exact⟨rfl,V.out.1⟩
   .have F:decide (x<0)=false:=by simpa using A
    by_cases B:65535<x
    .have t:decide (65535<x)=true:=Zjl
     go_wp2;go_ret;exact⟨rfl,V.out.1⟩
    .have t:decide (65535<x)=false:=Zjl
     go_wp2;exact⟨⟨k+1,Q,by simp,V.out.1,Y.out ⟨by omega,by omega⟩⟩,by simp[intOf];omega⟩
  .obtain rfl:k=8:=by omega
   exact absurd V.out.2 h.out
def PR(a b:Nat->Int)(k i:Nat):Int:=if i<k then a i+b i else a i
def CT(a b:Nat->Int)(i:Nat):Int:=a i+b i
theorem A30(a b:Nat->Int)(w:World)(p:In8 a 0 65535)(F:In8 b 0 65535)(h:In8 (CT a b) 0 65535) :
  Calls prog 323 #[.agg #[.int .i64 (a 0),.int .i64 (a 1),.int .i64 (a 2),.int .i64 (a 3),.int .i64 (a 4),.int .i64 (a 5),.int .i64 (a 6),.int .i64 (a 7)],.agg #[.int .i64 (b 0),.int .i64 (b 1),.int .i64 (b 2),.int .i64 (b 3),.int .i64 (b 4),.int .i64 (b 5),.int .i64 (b 6),.int .i64 (b 7)]] w λe N=>e=.returned (.tuple #[.agg #[.int .i64 (CT a b 0),.int .i64 (CT a b 1),.int .i64 (CT a b 2),.int .i64 (CT a b 3),.int .i64 (CT a b 4),.int .i64 (CT a b 5),.int .i64 (CT a b 6),.int .i64 (CT a b 7)],.int .i64 0])/\Ext w N:=by
 replace h:=Af h;replace p:=Af p;replace F:=Af F;go_enter func323,ntmps323;go_wp2;go_loopw [7] (λi wr=>∃k:Nat,k<=8/\i=.int .i64 k/\Hid (Blk wr w.heap.size 112 (c8 (PR a b k))/\Blk wr (w.heap.size+1) 112 (c8 b)/\Blk wr (w.heap.size+2) 112 (c8 (λ_=>0))/\Ext w wr)) (λi _=>8-(intOf i).toNat)
 case atStart=>exact⟨0,by omega,rfl,((Blk.new _ _ _).alloc _).alloc _,(ES _ _ ZbS).alloc _,ES _ _ ZbS,(((Ext.refl _).alloc _).alloc _).alloc _⟩
 case round=>
  obtain⟨k,C,rfl,G⟩:=hrel;by_cases Q:k<8
  .have E:wr.cell? ⟨w.heap.size,k,none⟩=some (.int .i64 (a k)):=by
    rw[G.out.1.at8 Q];simp[PR]
   have o:=G.out.1.frozen k;have O:=G.out.2.1.at8 Q;have d:=p.out k Q;have M:=F.out k Q
   have f:Hid (Blk (wr.setCell ⟨w.heap.size,k,none⟩ (.int .i64 (a k+b k))) w.heap.size 112 (c8 (PR a b (k+1)))):=by
    refine G.out.1.set8' Q _ (by simp[PR]) λi K I=>?_;by_cases A:i<k
    .simp [PR,A,show i<k+1 by omega]
    .simp [PR,A,show¬i<k+1 by omega]
   generalize a k=x at *;generalize b k=y at *;go_wp2;go_region;go_wp2;exact⟨⟨k+1,Q,by simp,f.out.drew,(G.out.2.1.far ZbW _).drew,(G.out.2.2.1.far ZbW _).drew,(G.out.2.2.2.set (p:=⟨w.heap.size,k,none⟩) (Yah _) _).drew⟩,by simp[intOf];omega⟩
  .obtain rfl:k=8:=by omega
   have t:Blk wr w.heap.size 112 (c8 (CT a b)):=by
    rw[<-ND (a:=PR a b 8) λi K=>by simp[PR,CT,K]];exact G.out.1
   have J:(wr).cell? ⟨w.heap.size,0,none⟩=some (.int .i64 (CT a b 0)):=(t).cell 0;have R:(wr).cell? ⟨w.heap.size,1,none⟩=some (.int .i64 (CT a b 1)):=(t).cell 1;have X:(wr).cell? ⟨w.heap.size,2,none⟩=some (.int .i64 (CT a b 2)):=(t).cell 2;have q:(wr).cell? ⟨w.heap.size,3,none⟩=some (.int .i64 (CT a b 3)):=(t).cell 3;have Z:(wr).cell? ⟨w.heap.size,4,none⟩=some (.int .i64 (CT a b 4)):=(t).cell 4;have g:(wr).cell? ⟨w.heap.size,5,none⟩=some (.int .i64 (CT a b 5)):=(t).cell 5;have l:(wr).cell? ⟨w.heap.size,6,none⟩=some (.int .i64 (CT a b 6)):=(t).cell 6;have m:(wr).cell? ⟨w.heap.size,7,none⟩=some (.int .i64 (CT a b 7)):=(t).cell 7;go_wp2_with fail;refine(PF _ _ h.out).mono ?_;rintro e j ⟨rfl,L⟩;have W:=t.ext L;have B:=G.out.2.2.1.ext L;clear J R X q Z g l m;have J:(j).cell? ⟨w.heap.size,0,none⟩=some (.int .i64 (CT a b 0)):=(W).cell 0;have R:(j).cell? ⟨w.heap.size,1,none⟩=some (.int .i64 (CT a b 1)):=(W).cell 1;have X:(j).cell? ⟨w.heap.size,2,none⟩=some (.int .i64 (CT a b 2)):=(W).cell 2;have q:(j).cell? ⟨w.heap.size,3,none⟩=some (.int .i64 (CT a b 3)):=(W).cell 3;have Z:(j).cell? ⟨w.heap.size,4,none⟩=some (.int .i64 (CT a b 4)):=(W).cell 4;have g:(j).cell? ⟨w.heap.size,5,none⟩=some (.int .i64 (CT a b 5)):=(W).cell 5;have l:(j).cell? ⟨w.heap.size,6,none⟩=some (.int .i64 (CT a b 6)):=(W).cell 6;have m:(j).cell? ⟨w.heap.size,7,none⟩=some (.int .i64 (CT a b 7)):=(W).cell 7;have n:(j).cell? ⟨w.heap.size+2,0,none⟩=some (.int .i64 0):=(B).cell 0;have r:(j).cell? ⟨w.heap.size+2,1,none⟩=some (.int .i64 0):=(B).cell 1;have Y:(j).cell? ⟨w.heap.size+2,2,none⟩=some (.int .i64 0):=(B).cell 2;have s:(j).cell? ⟨w.heap.size+2,3,none⟩=some (.int .i64 0):=(B).cell 3;have v:(j).cell? ⟨w.heap.size+2,4,none⟩=some (.int .i64 0):=(B).cell 4;have z:(j).cell? ⟨w.heap.size+2,5,none⟩=some (.int .i64 0):=(B).cell 5;have P:(j).cell? ⟨w.heap.size+2,6,none⟩=some (.int .i64 0):=(B).cell 6;have T:(j).cell? ⟨w.heap.size+2,7,none⟩=some (.int .i64 0):=(B).cell 7;have H:=(B).frozen 0;have S:=(B).frozen 1;have c:=(B).frozen 2;have V:=(B).frozen 3;have u:=(B).frozen 4;have U:=(B).frozen 5;have z6:=(B).frozen 6;have z7:=(B).frozen 7;replace B:=Af B;replace W:=Af W;replace t:=Af t;go_wp2;refine bodyPost_ret (v:=.tuple #[.agg #[.int .i64 (CT a b 0),.int .i64 (CT a b 1),.int .i64 (CT a b 2),.int .i64 (CT a b 3),.int .i64 (CT a b 4),.int .i64 (CT a b 5),.int .i64 (CT a b 6),.int .i64 (CT a b 7)],.int .i64 0]) (by simp[results,Tryz.results323,go_sem,n,r,Y,s,v,z,P,T]) rfl ⟨rfl,?_⟩;exact(G.out.2.2.2.trans L).put8 (b:=w.heap.size+2) ZbD (CT a b)
theorem A80:∀m:Nat,m<256->∀k:Nat,k<8->bits BinOp.or IntKind.u8 (m:Int) (2^k)=(m ||| 2^k:Nat):=ZjC
def suppTo(a:Nat->Int):Nat->Nat
 |0=>0
 |k+1=>if 0<a k then suppTo a k |||2^k else suppTo a k
theorem JB(a:Nat->Int):∀k,suppTo a k<2^k
 |0=>by simp[suppTo]
 |k+1=>by
  have u:=JB a k;have B:2^k<2^(k+1):=Nat.pow_lt_pow_right ZbD ZbD;rw[suppTo];split
  .exact Yes ZbD B
  .omega
theorem Re(a:Nat->Int):∀k i,i<k->(suppTo a k).testBit i=decide (0<a i)
 |0,i,h=>by omega
 |k+1,i,h=>by
  have J:=JB a k;rw[suppTo];by_cases e:i=k
  .subst e
   split
   .rename_i A;rw[YeI,Nat.testBit_two_pow_self,Bool.or_true];simp[A]
   .rename_i A;rw[Nat.testBit_lt_two_pow J];simp[A]
  .have u:=Re a k i ZbD
   split
   .rw [YeI,Nat.testBit_two_pow_of_ne (λh=>e h.symm),Bool.or_false,u]
   .exact u
theorem YP(a:Nat->Int)(w:World) :
  Calls prog 299 #[.agg #[.int .i64 (a 0),.int .i64 (a 1),.int .i64 (a 2),.int .i64 (a 3),.int .i64 (a 4),.int .i64 (a 5),.int .i64 (a 6),.int .i64 (a 7)]] w λe N=>e=.returned (.int .u8 (suppTo a 8))/\Ext w N:=by
 go_enter func299,ntmps299;go_wp2;go_loopw [3,7] (λs i wr=>∃k:Nat,k<=8/\i=.int .i64 k/\s=.int .u8 (suppTo a k)/\Hid (Ext w wr)) (λ_ i _=>8-(intOf i).toNat)
 case atStart=>exact ZjB
 case round=>
  obtain⟨k,C,rfl,rfl,V⟩:=hrel;by_cases Q:k<8
  .have E:=λW=>GJ a k Q W
   have F:=JB a k;have f:suppTo a k<256:=Yaq F (Ybk (n:=2) ZbD (show k<=8 by omega));clear F;have Y:Hid (suppTo a (k+1)=if 0<a k then suppTo a k ||| 2^k else suppTo a k):=rfl;generalize suppTo a k=s at *;generalize a k=x at *;by_cases A:0<x
   .have p:=Y.out
    rw[Yan A]at p;replace p:=Af p;clear Y
    have B:Hid ((2:Int)^k%256=2^k):=by
     rcases lt8 Q with rfl | rfl | rfl | rfl | rfl | rfl | rfl | rfl<;>rfl
    go_wp2;exact⟨⟨k+1,Q,by simp,by rw[p.out,B.out,A80 s f k Q],V⟩,by simp[intOf];omega⟩
   .have p:=Y.out
    rw[Yai A]at p;replace p:=Af p;clear Y;go_wp2;exact⟨⟨k+1,Q,by simp,by rw[p.out],V⟩,by simp[intOf];omega⟩
  .exact Zay
theorem Abm:∀m:Nat,m<256->∀k:Nat,k<8->(bits BinOp.and IntKind.u8 ((m:Int)/2^k) 1==1)=m.testBit k:=ZjC
theorem Aar(m k:Nat)(w:World)(x:m<256)(C:k<8) :
  Calls prog 232 #[.int .u8 m,.int .i64 k] w λe N=>e=.returned (.bool (m.testBit k))/\w=N:=by
 go_enter func232,ntmps232;go_wp2;go_ret;exact⟨by rw[Abm m x k C];rfl,rfl⟩
def KO(i:Nat)(n:Int)(j:Nat):Int:=if j=i then n else 0
def cb8(s:Nat->Bool):Array Value:=#[.bool (s 0),.bool (s 1),.bool (s 2),.bool (s 3),.bool (s 4),.bool (s 5),.bool (s 6),.bool (s 7)]
theorem A7W(s:Nat->Bool)(k:Nat)(h:k<8):(cb8 s)[k]? = some (.bool (s k)):=by
 rcases lt8 h with rfl | rfl | rfl | rfl | rfl | rfl | rfl | rfl<;>rfl
theorem Pa{a b:Nat->Bool}(h:∀i,i<8->a i=b i):cb8 a=cb8 b:=by
 simp only[cb8,h 0 ZbD,h 1 ZbD,h 2 ZbD,h 3 ZbD,h 4 ZbD,h 5 ZbD,h 6 ZbD,h 7 ZbD]
theorem A7V(a:Nat->Bool)(k:Nat)(v:Bool)(h:k<8):(cb8 a).setIfInBounds k (.bool v)=cb8 (λi=>if i=k then v else a i):=by
 rcases lt8 h with rfl | rfl | rfl | rfl | rfl | rfl | rfl | rfl<;>rfl
theorem Blk.atb{s:Nat->Bool}(h:Blk w n t (cb8 s))(C:b<8):w.cell? ⟨n,b,none⟩=some (.bool (s b)):=by
 rw[h.cell,A7W s b C]
theorem Blk.setb{a X:Nat->Bool}(h:Blk w n t (cb8 a))(C:b<8)(v:Bool)(A:X b=v)(B:∀i,i<8->i≠b->X i=a i):Blk (w.setCell ⟨n,b,none⟩ (.bool v)) n t (cb8 X):=by
 rw[show cb8 X=(cb8 a).setIfInBounds b (.bool v)by
  rw[A7V a b v C];refine Pa λi K=>?_;by_cases e:i=b
  .rw [Yan e,e,A]
  .rw [Yai e,B i K e]]
 exact h.set b _
def seenTo(R:List (Nat->Int)):Nat->Nat->Bool
 |0,_=>false
 |k+1,j=>seenTo R k j||(FX R k j != 0)
def Hr(R:List (Nat->Int))(k j i:Nat):Bool:=if i<j then seenTo R (k+1) i else seenTo R k i
def Zi(R:List (Nat->Int))(k j:Nat):Prop:=-1000<=FX R k j/\FX R k j<=1000/\(FX R k j<0->seenTo R k j=true)
def OValid(R:List (Nat->Int)):Prop:=R.length<=24/\∀k j,k<R.length->j<8->Zi R k j
open Classical in
noncomputable def ovB (R:List (Nat->Int)):Bool:=decide (OValid R)
theorem A51(h:OValid vx):ovB vx=true:=by simp[ovB,h]
theorem TU(h:¬OValid vx):ovB vx=false:=by simp[ovB,h]
theorem OValid.in8(h:OValid vx):∀r∈vx,In8 r (-1000) 1000:=λr X i K=>by
 obtain⟨k,C,rfl⟩:=List.mem_iff_getElem.1 X;have:=h.2 k i C K;have e:FX vx k=vx[k]:=by simp[FX,Yab,Yac C]
 unfold Zi at this;rw[e]at this;exact⟨this.1,this.2.1⟩
theorem A0a(v:Value)(R:List (Nat->Int))(w:World)(h:RowsAt .i64 36 w v R) :
  Calls Tryz.prog 155 #[v] w λe w'=>e = .returned (.bool (ovB R))/\Ext w w':=by
 obtain ⟨A,c,rfl,hc,hm,hx⟩:=h.open_
 clear h
 replace hx:=Af hx
 by_cases hlen:24<R.length
 .have hF:Hid (ovB R=false):=TU λh=>by have:=h.1; omega
  go_enter Tryz.func155,Tryz.ntmps155
  go_wp2
  go_ret
  exact ⟨by rw [hF.out];rfl,Ext.refl _⟩
 .go_enter Tryz.func155,Tryz.ntmps155
  go_wp2
  go_loopw [13] (λi wr=>∃k:Nat,k<=R.length/\i = .int .i64 k/\Hid ((∀k' j,k'<k->j<8->Zi R k' j)/\Blk wr w.heap.size 315 (cb8 (seenTo R k))/\Ext w wr)) (λi _=>R.length-(intOf i).toNat)
  case atStart=>exact ⟨0,by omega,rfl,λk' j h=>by omega,Blk.new _ _ _,(Ext.refl _).alloc _⟩
  case round=>
   obtain ⟨k,hk,rfl,hI⟩:=hrel
   by_cases hlt:k<R.length
   .obtain ⟨g, o, rfl, hgl, hcl⟩:=hx.out (by omega)
    replace hcl:=Af λj (hj:j<8)=>(hI.out.2.2.cell (p:=⟨g,o+k*8+j,none⟩) hgl).trans (hcl k j hlt hj)
    have hok:Hid (∀j,Zi R k j↔-1000<=FX R k j/\FX R k j<=1000/\(FX R k j<0->seenTo R k j=true)):=λj=>Iff.rfl
    have hse:Hid (∀j,seenTo R (k+1) j=(seenTo R k j||(FX R k j != 0))):=λj=>rfl
    generalize FX R k=r at *
    have r0:(wr).cell? ⟨g,o+k*8,none⟩=some (.int .i64 (r 0)):=hcl.out 0 (by omega)
    have r1:(wr).cell? ⟨g,o+k*8+1,none⟩=some (.int .i64 (r 1)):=hcl.out 1 (by omega)
    have r2:(wr).cell? ⟨g,o+k*8+2,none⟩=some (.int .i64 (r 2)):=hcl.out 2 (by omega)
    have r3:(wr).cell? ⟨g,o+k*8+3,none⟩=some (.int .i64 (r 3)):=hcl.out 3 (by omega)
    have r4:(wr).cell? ⟨g,o+k*8+4,none⟩=some (.int .i64 (r 4)):=hcl.out 4 (by omega)
    have r5:(wr).cell? ⟨g,o+k*8+5,none⟩=some (.int .i64 (r 5)):=hcl.out 5 (by omega)
    have r6:(wr).cell? ⟨g,o+k*8+6,none⟩=some (.int .i64 (r 6)):=hcl.out 6 (by omega)
    have r7:(wr).cell? ⟨g,o+k*8+7,none⟩=some (.int .i64 (r 7)):=hcl.out 7 (by omega)
    have hB1:Hid (Blk (wr.alloc (.cells #[.int .i64 (r 0),.int .i64 (r 1),.int .i64 (r 2),.int .i64 (r 3),.int .i64 (r 4),.int .i64 (r 5),.int .i64 (r 6),.int .i64 (r 7)] 36)) w.heap.size 315 (cb8 (Hr R k 0))):=by
     have:=hI.out.2.1.alloc (.cells #[.int .i64 (r 0),.int .i64 (r 1),.int .i64 (r 2),.int .i64 (r 3),.int .i64 (r 4),.int .i64 (r 5),.int .i64 (r 6),.int .i64 (r 7)] 36)
     rw [Pa (b:=Hr R k 0) λi _=>by simp [Hr]] at this
     exact this
    have hE1:Hid (Ext w (wr.alloc (.cells #[.int .i64 (r 0),.int .i64 (r 1),.int .i64 (r 2),.int .i64 (r 3),.int .i64 (r 4),.int .i64 (r 5),.int .i64 (r 6),.int .i64 (r 7)] 36))):=hI.out.2.2.alloc _
    replace hI:=Af hI.out.1
    go_wp2
    generalize (wr.alloc (.cells #[.int .i64 (r 0),.int .i64 (r 1),.int .i64 (r 2),.int .i64 (r 3),.int .i64 (r 4),.int .i64 (r 5),.int .i64 (r 6),.int .i64 (r 7)] 36))=w2 at *
    clear r0 r1 r2 r3 r4 r5 r6 r7 hcl
    go_loopw [18] (λi wr=>∃j:Nat,j<=8/\i = .int .i64 j/\Hid ((∀j',j'<j->Zi R k j')/\Blk wr w.heap.size 315 (cb8 (Hr R k j))/\Ext w wr)) (λi _=>8-(intOf i).toNat)
    case atStart=>exact ⟨0,by omega,rfl,λj' h=>by omega,hB1.out,hE1.out⟩
    case round=>
     obtain ⟨j,hj,rfl,hJ⟩:=hrel
     by_cases hj8:j<8
     .have hix:=λW=>Th r j hj8 W
      have xs:wr.cell? ⟨w.heap.size,j,none⟩=some (.bool (seenTo R k j)):=by rw [hJ.out.2.1.atb hj8];simp [Hr]
      have xf:=hJ.out.2.1.frozen j
      have hok1:=Af (hok.out j)
      have hse1:=Af (hse.out j)
      have hbad:Hid (¬Zi R k j->ovB R=false):=λhn=>TU λhv=>hn (hv.2 k j hlt hj8)
      have hgood:Hid (Zi R k j->∀j',j'<j+1->Zi R k j'):=λhg j' h'=>by
       by_cases e:j'=j
       .rw [e];exact hg
       .exact hJ.out.1 j' (by omega)
      have hset:Hid (∀v,v=seenTo R (k+1) j->Blk (wr.setCell ⟨w.heap.size,j,none⟩ (.bool v)) w.heap.size 315 (cb8 (Hr R k (j+1)))):=λv hv=>by
       refine hJ.out.2.1.setb hj8 _ (by simp [Hr,hv]) λi hi hne=>?_
       by_cases h1:i<j
       .simp [Hr,h1,show i<j+1 by omega]
       .simp [Hr,h1,show ¬i<j+1 by omega]
      have hE2:Hid (∀v,Ext w (wr.setCell ⟨w.heap.size,j,none⟩ (.bool v))):=λv=>hJ.out.2.2.set (p:=⟨w.heap.size,j,none⟩) (Nat.le_refl _) _
      have hE0:Hid (Ext w wr):=hJ.out.2.2
      clear hJ
      generalize seenTo R k j=s at *
      generalize r j=x at *
      by_cases h1:x < -1000
      .have h1':decide (x < -1000)=true:=by simpa using h1
       go_wp2
       go_ret
       exact ⟨by rw [hbad.out λh=>by have:=hok1.out.1 h;omega];rfl,hE0.out⟩
      .have h1':decide (x < -1000)=false:=by simpa using h1
       by_cases h2:1000<x
       .have h2':decide (1000<x)=true:=by simpa using h2
        go_wp2
        go_ret
        exact ⟨by rw [hbad.out λh=>by have:=hok1.out.1 h;omega];rfl,hE0.out⟩
       .have h2':decide (1000<x)=false:=by simpa using h2
        by_cases h3:x<0
        .have h3':decide (x<0)=true:=by simpa using h3
         cases s with
         | false=>
          go_wp2
          go_ret
          exact ⟨by rw [hbad.out λh=>by have:=(hok1.out.1 h).2.2 h3;cases this];rfl,hE0.out⟩
         | true=>
          go_wp2
          exact ⟨⟨j+1,hj8,by simp,hgood.out (hok1.out.2 ⟨by omega,by omega,λ_=>rfl⟩),hset.out _ (by rw [hse1.out];rfl),hE2.out _⟩,by simp [intOf];omega⟩
        .have h3':decide (x<0)=false:=by simpa using h3
         cases s with
         | false=>
          by_cases h4:x=0
          .subst h4
           go_wp2
           exact ⟨⟨j+1,hj8,by simp,hgood.out (hok1.out.2 ⟨by omega,by omega,λh=>by omega⟩),hset.out _ (by rw [hse1.out];rfl),hE2.out _⟩,by simp [intOf];omega⟩
          .have h4':(x != 0)=true:=by simpa using h4
           go_wp2
           exact ⟨⟨j+1,hj8,by simp,hgood.out (hok1.out.2 ⟨by omega,by omega,λh=>by omega⟩),hset.out _ (by rw [hse1.out,h4'];rfl),hE2.out _⟩,by simp [intOf];omega⟩
         | true=>
          go_wp2
          exact ⟨⟨j+1,hj8,by simp,hgood.out (hok1.out.2 ⟨by omega,by omega,λh=>by omega⟩),hset.out _ (by rw [hse1.out];rfl),hE2.out _⟩,by simp [intOf];omega⟩
     .obtain rfl:j=8:=by omega
      go_wp2
      refine ⟨⟨k+1,hlt,by simp,λk' j' h1 h2=>?_,?_,hJ.out.2.2⟩,by simp [intOf];omega⟩
      .by_cases e:k'=k
       .rw [e];exact hJ.out.1 j' h2
       .exact hI.out k' j' (by omega) h2
      .have:=hJ.out.2.1
       rwa [Pa (b:=seenTo R (k+1)) λi hi=>by simp [Hr,hi]] at this
   .obtain rfl:k=R.length:=by omega
    have hT:Hid (ovB R=true):=A51 ⟨by omega,λk j h1 h2=>hI.out.1 k j h1 h2⟩
    go_wp2
    go_ret
    exact ⟨by rw [hT.out];rfl,hI.out.2.2⟩
theorem OwnRows.base_mono{base m:Nat}{v:Value}{R:List (Nat->Int)}(h:OwnRows t base w v R)(F:m<=base):OwnRows t m w v R:=by
 obtain⟨A,B⟩:=h;refine⟨A,?_⟩;rcases B with B | ⟨g,cap,cur,h3,h4,h5⟩
 .exact .inl B
 .exact .inr ⟨g,cap,cur,h3,by omega,h5⟩
theorem ZX(a b:Nat->Int)(W:World):(Op.equalIn 10000 36 (.agg #[.int .i64 (a 0),.int .i64 (a 1),.int .i64 (a 2),.int .i64 (a 3),.int .i64 (a 4),.int .i64 (a 5),.int .i64 (a 6),.int .i64 (a 7)]) (.agg #[.int .i64 (b 0),.int .i64 (b 1),.int .i64 (b 2),.int .i64 (b 3),.int .i64 (b 4),.int .i64 (b 5),.int .i64 (b 6),.int .i64 (b 7)])).run prog W=.ok (Om a b) W:=by
 obtain⟨i,K⟩:∃i,Tryz.prog.info? 3=some i:=Ycw.1 ZbI;have:=run_equalIn_array (P:=prog) W 9999 (t:=36) (e:=3) (n:=8) (c8 a) (c8 b) ZbI K;exact ZiM
def Ml(a b:Nat->Int)(i:Nat):Int:=a i-b i
def EI(d:Nat->Int):Nat->Nat->Int
 |_,0=>0
 |k,n+1=>if d k=0 then EI d (k+1) n else if d k<0 then -1 else 1
def HI(r d:Nat->Int):Int:=CV (λi=>r i*d i) 8
def Ie:List (Nat->Int)->(Nat->Int)->Int
 |[],d=>EI d 0 8
 |r::R,d=>if HI r d<0 then -1 else if 0<HI r d then 1 else Ie R d
theorem LP(a b:Nat->Int):∀(n k:Nat),Jd a b k n=EI (Ml a b) k n
 |0,_=>rfl
 |n+1,k=>by
  rw[Jd,EI,LP a b n (k+1)];have e:Ml a b k=a k-b k:=rfl;generalize Ml a b k=d at *;by_cases h:a k=b k
  .rw [Yan h,Yan ZbD]
  .by_cases A:a k<b k
   .simp only[Yai h,Yan A];rw[Yai ZbD,Yan ZbD]
   .simp only[Yai h,Yai A];exact ZjD
theorem EM(a b:Nat->Int):∀R:List (Nat->Int),IE R a b=Ie R (Ml a b)
 |[]=>by rw[IE,Jh,Yan rfl];exact LP a b 8 0
 |r::R=>by
  have u:=EM a b R;unfold IE at u ⊢;rw[Jh,Ie,<-u];show(if(if PO r a b 8<0 then _ else _)=0 then _ else _)=if PO r a b 8<0 then _ else if 0<PO r a b 8 then _ else _
  by_cases A:PO r a b 8<0
  .simp only[Yan A];rw[Yai ZbD]
  .simp only[Yai A]
   by_cases B:0<PO r a b 8
   .simp only[Yan B];rw[Yai ZbD]
   .simp only[Yai B]
theorem TH(a b:Nat->Int):∀k,CV (λi=>a i+b i) k=CV a k+CV b k
 |0=>rfl
 |k+1=>by simp only[CV,TH a b k];omega
theorem TG(a:Nat->Int):∀k,CV (λi=>-(a i)) k=-(CV a k)
 |0=>rfl
 |k+1=>by simp only[CV,TG a k];omega
theorem IU{a b:Nat->Int}:∀{k:Nat},(∀i,i<k->a i=b i)->CV a k=CV b k
 |0,_=>rfl
 |k+1,h=>by rw[CV,CV,IU λi K=>h i ZbD,h k ZbD]
theorem A38(r d e:Nat->Int):HI r (CT d e)=HI r d+HI r e:=by
 unfold HI;rw[<-TH];exact IU λi _=>by simp only[CT,Int.mul_add]
theorem A37(r d:Nat->Int):HI r (λi=>-(d i))=-(HI r d):=by
 unfold HI;rw[<-TG];exact IU λi _=>by rw[YeK]
theorem Yj(h:∀i,i<8->vD i=uS i):HI vh vD=HI vh uS:=IU λi K=>by rw[h i K]
theorem Px{d e:Nat->Int}:∀(n k:Nat),(∀i,k<=i->i<k+n->d i=e i)->EI d k n=EI e k n
 |0,_,_=>rfl
 |n+1,k,h=>by rw[EI,EI,h k ZbD ZbD,Px n (k+1) λi A B=>h i ZbD ZbD]
theorem ID{d e:Nat->Int}(h:∀i,i<8->d i=e i):∀R:List (Nat->Int),Ie R d=Ie R e
 |[]=>Px 8 0 λi _ K=>h i ZbD
 |r::R=>by rw[Ie,Ie,Yj h,ID h R]
theorem TJ(d:Nat->Int):∀(n k:Nat),EI d k n=-1\/EI d k n=0\/EI d k n=1
 |0,_=>.inr (.inl rfl)
 |n+1,k=>by
  rw[EI];split
  .exact TJ d n (k+1)
  .split
   .exact .inl rfl
   .exact .inr (.inr rfl)
theorem XD(d:Nat->Int):∀R:List (Nat->Int),Ie R d=-1\/Ie R d=0\/Ie R d=1
 |[]=>TJ d 8 0
 |r::R=>by
  rw[Ie];split
  .exact .inl rfl
  .split
   .exact .inr (.inr rfl)
   .exact XD d R
theorem TK(d:Nat->Int):∀(n k:Nat),EI (λi=>-(d i)) k n=-(EI d k n)
 |0,_=>rfl
 |n+1,k=>by
  simp only[EI];rw[TK d n (k+1)];by_cases h:d k=0
  .rw [Yan h,Yan ZbD]
  .rw [Yai h, Yai ZbD]
   by_cases A:d k<0
   .rw [Yan A,Yai ZbD];rfl
   .rw [Yai A,Yan ZbD]
theorem XE(d:Nat->Int):∀R:List (Nat->Int),Ie R (λi=>-(d i))=-(Ie R d)
 |[]=>TK d 8 0
 |r::R=>by
  simp only[Ie];rw[A37,XE d R];by_cases h:HI r d<0
  .rw [Yan h,Yai ZbD,Yan ZbD];rfl
  .rw [Yai h]
   by_cases A:0<HI r d
   .rw [Yan A,Yan ZbD]
   .rw [Yai A,Yai ZbD,Yai ZbD]
theorem Rl{d:Nat->Int}:∀(n k:Nat),EI d k n=0->∀i,k<=i->i<k+n->d i=0
 |0,_,_,i,A,B=>by omega
 |n+1,k,h,i,A,B=>by
  rw[EI]at h;split at h
  .rename_i c
   by_cases e:i=k
   .rw [e];exact c
   .exact Rl n (k+1) h i ZbD ZbD
  .split at h<;>omega
theorem Ua{d:Nat->Int}:∀{R:List (Nat->Int)},Ie R d=0->∀i,i<8->d i=0
 |[],h,i,K=>Rl 8 0 h i ZbD ZbD
 |r::R,h,i,K=>by
  rw[Ie]at h;split at h
  .omega
  .split at h
   .omega
   .exact Ua h i K
theorem TL{d e:Nat->Int}:∀(n k:Nat),0<=EI d k n->0<=EI e k n->(0<=EI (CT d e) k n/\(0<EI d k n\/0<EI e k n->0<EI (CT d e) k n))
 |0,_,_,_=>⟨by simp[EI],by simp[EI]⟩
 |n+1,k,A,B=>by
  rw[EI]at A B;simp only[EI];have p:CT d e k=d k+e k:=rfl;by_cases C:d k=0
  .rw [Yan C]at A ⊢
   by_cases b:e k=0
   .rw [Yan b]at B ⊢
    rw[Yan ZbD];exact TL n (k+1) A B
   .rw [Yai b]at B ⊢
    by_cases z:e k<0
    .rw [Yan z]at B;omega
    .rw [Yai z,Yai ZbD,Yai ZbD];exact ZjE
  .rw [Yai C]at A ⊢
   by_cases E:d k<0
   .rw [Yan E]at A;omega
   .by_cases b:e k=0
    .rw [Yan b,Yai E,Yai ZbD,Yai ZbD];exact ZjE
    .rw [Yai b]at B ⊢
     by_cases z:e k<0
     .rw [Yan z]at B;omega
     .rw [Yai E,Yai z,Yai ZbD,Yai ZbD];exact ZjE
theorem XF{d e:Nat->Int}:∀{R:List (Nat->Int)},0<=Ie R d->0<=Ie R e->(0<=Ie R (CT d e)/\(0<Ie R d\/0<Ie R e->0<Ie R (CT d e)))
 |[],A,B=>TL 8 0 A B
 |r::R,A,B=>by
  rw[Ie]at A B;simp only[Ie];rw[A38];by_cases H:HI r d<0
  .rw [Yan H]at A;omega
  .by_cases E:HI r e<0
   .rw [Yan E]at B;omega
   .rw [Yai H]at A ⊢
    rw[Yai E]at B ⊢;rw[Yai ZbD];by_cases F:0<HI r d
    .rw [Yan F,Yan ZbD];exact ZjE
    .rw [Yai F]at A ⊢
     by_cases C:0<HI r e
     .rw [Yan C,Yan ZbD];exact ZjE
     .rw [Yai C]at B ⊢
      rw[Yai ZbD];exact XF A B
theorem A55(R:List (Nat->Int))(a b:Nat->Int):IE R a b=-1\/IE R a b=0\/IE R a b=1:=by
 rw[EM];exact XD _ _
theorem A56(R:List (Nat->Int))(a b:Nat->Int):IE R b a=-(IE R a b):=by
 rw[EM,EM,<-XE];exact ID (λi _=>by simp only[Ml];omega) R
theorem A2S:IE vx vh vD=0↔∀i,i<8->vh i=vD i:=by
 constructor
 .intro h i K
  rw[EM]at h;have:=Ua h i K;simp only[Ml]at this;omega
 .intro h;exact A7e h vx
theorem A0b(A:0<=IE vx vh vD)(B:0<=IE vx vD uS):0<=IE vx vh uS/\(0<IE vx vh vD\/0<IE vx vD uS->0<IE vx vh uS):=by
 rw[EM]at A B;rw[EM vh uS vx,EM vh vD vx,EM vD uS vx];rw[ID (d:=Ml vh uS) (e:=CT (Ml vh vD) (Ml vD uS)) (λi _=>by simp only[Ml,CT];omega) vx];exact XF A B
theorem A0c{a b X y:Nat->Int}(A:∀i,i<8->a i=X i)(B:∀i,i<8->b i=y i):IE vx a b=IE vx X y:=by
 rw[EM,EM];exact ID (λi K=>by simp only[Ml,A i K,B i K]) vx
theorem A57(R:List (Nat->Int))(a b c:Nat->Int):IE R (CT a c) (CT b c)=IE R a b:=by
 rw[EM,EM];exact ID (λi _=>by simp only[Ml,CT];omega) R
def Eqv(a b:Nat->Int):Prop:=∀i,i<8->a i=b i
theorem Eqv.refl(a:Nat->Int):Eqv a a:=λ_ _=>rfl
theorem Eqv.symm{a b:Nat->Int}(h:Eqv a b):Eqv b a:=λi K=>(h i K).symm
structure Tm where
 c:Rat
 m:Nat->Int
instance:Inhabited Tm:=⟨⟨0,λ_=>0⟩⟩
def lx(a b:Nat->Int):Int:=IE [] a b
theorem A5n(a b:Nat->Int):lx a b=-1\/lx a b=0\/lx a b=1:=A55 _ _ _
theorem A5o(a b:Nat->Int):lx b a=-(lx a b):=A56 _ _ _
theorem Qv:lx vh vD=0↔Eqv vh vD:=A2S
theorem A5p{a b X y:Nat->Int}(A:Eqv a X)(B:Eqv b y):lx a b=lx X y:=A0c A B
theorem RN(A:0<lx vh vD)(B:0<lx vD uS):0<lx vh uS:=(A0b (Int.le_of_lt A) (Int.le_of_lt B)).2 (.inl A)
theorem A9z(a b c:Nat->Int):lx (CT a c) (CT b c)=lx a b:=A57 _ _ _ _
theorem Uw(a b:Nat->Int):CT a b=CT b a:=by funext i;simp only[CT];omega
def Dec(P:List Tm):Prop:=P.Pairwise λs t=>0<lx s.m t.m
def Canon(P:List Tm):Prop:=Dec P/\∀t∈P,t.c≠0
def SameL:List Tm->List Tm->Prop
 |[],[]=>True
 |s::P,t::Q=>s.c=t.c/\Eqv s.m t.m/\SameL P Q
 |_,_=>False
theorem SameL.refl:∀P:List Tm,SameL P P
 |[]=>trivial
 |t::P=>⟨rfl,Eqv.refl _,SameL.refl P⟩
theorem SameL.length:∀{P Q:List Tm},SameL P Q->P.length=Q.length
 |[],[],_=>rfl
 |_::_,_::_,h=>by simp[SameL.length h.2.2]
 |[],_::_,h=>h.elim
 |_::_,[],h=>h.elim
def Jb:List Tm->List Tm->List Tm
 |[],Q=>Q
 |s::P,[]=>s::P
 |s::P,t::Q=>
  if 0<lx s.m t.m then s::Jb P (t::Q)
  else if lx s.m t.m<0 then t::Jb (s::P) Q
  else if s.c+t.c=0 then Jb P Q else⟨s.c+t.c,s.m⟩::Jb P Q
termination_by P Q=>P.length+Q.length
theorem A1W(P:List Tm):Jb P []=P:=by cases P<;>simp[Jb]
theorem Ig:∀(P Q:List Tm) (u:Tm),u∈Jb P Q->(∃s∈P,s.m=u.m)\/∃t∈Q,t.m=u.m
 |[],Q,u,h=>by simp only[Jb]at h;exact .inr ⟨u,h,rfl⟩
 |s::P,[],u,h=>by simp only[Jb]at h;exact .inl ⟨u,h,rfl⟩
 |s::P,t::Q,u,h=>by
  rw[Jb]at h
  have n:((∃x∈P,x.m=u.m)\/∃x∈Q,x.m=u.m)->(∃x∈s::P,x.m=u.m)\/∃x∈t::Q,x.m=u.m:=λh=>by
   rcases h with⟨x,E,e⟩ | ⟨x,E,e⟩
   .exact .inl ⟨x,by simp[E],e⟩
   .exact .inr ⟨x,by simp[E],e⟩
  split at h
  .rcases YaK.1 h with rfl | h
   .exact .inl ⟨u,by simp,rfl⟩
   .rcases Ig P (t::Q) u h with⟨x,E,e⟩ | h
    .exact .inl ⟨x,by simp[E],e⟩
    .exact .inr h
  .split at h
   .rcases YaK.1 h with rfl | h
    .exact .inr ⟨u,by simp,rfl⟩
    .rcases Ig (s::P) Q u h with h | ⟨x,E,e⟩
     .exact .inl h
     .exact .inr ⟨x,by simp[E],e⟩
   .split at h
    .exact n (Ig P Q u h)
    .rcases YaK.1 h with rfl | h
     .exact .inl ⟨s,by simp,rfl⟩
     .exact n (Ig P Q u h)
termination_by P Q=>P.length+Q.length
theorem JM:∀{P Q:List Tm},Canon P->Canon Q->Canon (Jb P Q)
 |[],Q,_,h=>by simp only[Jb];exact h
 |s::P,[],h,_=>by simp only[Jb];exact h
 |s::P,t::Q,M,F=>by
  have U:=Ydu.1 M.1;have G:=Ydu.1 F.1;have K:Canon P:=⟨U.2,λu S=>M.2 u (by simp[S])⟩;have y:Canon Q:=⟨G.2,λu S=>F.2 u (by simp[S])⟩
  have g:∀{x:Tm} {L:List Tm},x.c≠0->Canon L->(∀u∈L,0<lx x.m u.m)->Canon (x::L):=λI p E=>⟨Ydu.2 ⟨E,p.1⟩,λu S=>by
   rcases YaK.1 S with rfl | S
   .exact I
   .exact p.2 u S⟩
  rw[Jb];split
  .rename_i A
   refine g (M.2 s ZbS) (JM K F) λu S=>?_;rcases Ig P (t::Q) u S with⟨x,E,e⟩ | ⟨x,E,e⟩
   .rw [<-e];exact U.1 x E
   .rw [<-e]
    rcases YaK.1 E with rfl | E
    .exact A
    .exact RN A (G.1 x E)
  .split
   .rename_i A B
    have J:0<lx t.m s.m:=by rw[A5o];omega
    refine g (F.2 t ZbS) (JM M y) λu S=>?_;rcases Ig (s::P) Q u S with⟨x,E,e⟩ | ⟨x,E,e⟩
    .rw [<-e]
     rcases YaK.1 E with rfl | E
     .exact J
     .exact RN J (U.1 x E)
    .rw [<-e];exact G.1 x E
   .rename_i A B
    have b:Eqv s.m t.m:=Qv.1 (by rcases A5n s.m t.m with h | h | h<;>omega);split
    .exact JM K y
    .rename_i C
     refine g C (JM K y) λu S=>?_;rcases Ig P Q u S with⟨x,E,e⟩ | ⟨x,E,e⟩
     .rw [<-e];exact U.1 x E
     .rw [<-e,A5p b (Eqv.refl _)];exact G.1 x E
termination_by P Q=>P.length+Q.length
theorem Km:∀P Q:List Tm,(Jb P Q).length<=P.length+Q.length
 |[],Q=>by simp only[Jb];simp
 |s::P,[]=>by simp only[Jb];simp
 |s::P,t::Q=>by
  rw[Jb];have A:=Km P (t::Q);have B:=Km (s::P) Q;have L:=Km P Q;simp only[Yav]at A B L ⊢;split
  .exact ZiF
  .split
   .exact ZiF
   .split
    .omega
    .exact ZiF
termination_by P Q=>P.length+Q.length
theorem A07{m i:Nat}:BW m i=if m.testBit i then 1 else 0:=by
 unfold BW;rw[Nat.testBit,Yeo];have B:m/2^i%2=0\/m/2^i%2=1:=by omega
 rcases B with h | h
 .rw [h];simp[h]
 .rw [h];simp[h]
theorem Iy:∀k,(Gk k).length=k
 |0=>rfl
 |k+1=>by rw[Gk,Yav,Iy k]
theorem Iz:revRows.length=8:=by rw[revRows,Yav,Iy]
