/- Part 4. No condition. -/
import Derived.BigQuiet
import Derived.ChangeAlike
import Derived.ChangeKeysEq
import Derived.Deep.Cut
import Derived.Deep.CutBlock
import Derived.Deep.DeepCutAuto
import Derived.Deep.LoopGhost
import Derived.Deep.QuietTactic
import Derived.Deep.RegionHeld3
import Derived.Laws.AppendOwnNone
import Derived.RegionTactic
import Derived.WalkKit
import Derived.WalkLawsBesides
import Derived.WalkSpells
import Derived.Test.YtcikkglcoeedlaaGreatDm1
set_option linter.all false
set_option maxRecDepth 100000
set_option maxHeartbeats 1600000
namespace Go.Proofs.YtcikkglcoeedlaaGreat
open _root_.Go.Proofs.Tryz
open Go.RowKit
variable{i:IntKind}{vx:List (Nat->Int)}{n b:Nat}{vi vH uU:Nat->Int}{t:TypeId}{w p:World}
def c8(a:Nat->Int):Array Value:=#[.int .i64 (a 0),.int .i64 (a 1),.int .i64 (a 2),.int .i64 (a 3),.int .i64 (a 4),.int .i64 (a 5),.int .i64 (a 6),.int .i64 (a 7)]
theorem A6A(a:Nat->Int)(k:Nat)(h:k<8):(c8 a)[k]? = some (.int .i64 (a k)):=by
 match k,h with
 |0,_=>rfl
 |1,_=>rfl
 |2,_=>rfl
 |3,_=>rfl
 |4,_=>rfl
 |5,_=>rfl
 |6,_=>rfl
 |7,_=>rfl
theorem lt8(h:n<8):n=0\/n=1\/n=2\/n=3\/n=4\/n=5\/n=6\/n=7:=by omega
theorem GX(a:Nat->Int)(k:Nat)(h:k<8)(W:World):(Instr.index 112 (.agg #[.int .i64 (a 0),.int .i64 (a 1),.int .i64 (a 2),.int .i64 (a 3),.int .i64 (a 4),.int .i64 (a 5),.int .i64 (a 6),.int .i64 (a 7)]) (.int .i64 (k:Int))).run prog W=.ok (.int .i64 (a k)) W:=by
 rcases lt8 h with rfl | rfl | rfl | rfl | rfl | rfl | rfl | rfl<;>kernel_rfl
theorem TR(a:Nat->Int)(k:Nat)(h:k<8)(W:World):(Instr.index 36 (.agg #[.int .i64 (a 0),.int .i64 (a 1),.int .i64 (a 2),.int .i64 (a 3),.int .i64 (a 4),.int .i64 (a 5),.int .i64 (a 6),.int .i64 (a 7)]) (.int .i64 (k:Int))).run prog W=.ok (.int .i64 (a k)) W:=by
 rcases lt8 h with rfl | rfl | rfl | rfl | rfl | rfl | rfl | rfl<;>kernel_rfl
theorem A2t(a:Nat->Int)(k:Nat)(h:k<8)(W:World):(part 3 (c8 a) (k*Tryz.prog.cellsOf 3)).run prog W=.ok (.int .i64 (a k)) W:=by
 rcases lt8 h with rfl | rfl | rfl | rfl | rfl | rfl | rfl | rfl<;>kernel_rfl
def OS(a b:Nat->Int):Bool:=(List.range 8).all λi=>a i==b i
theorem IX:OS vi vH=true↔∀i,i<8->vi i=vH i:=by simp[OS]
theorem Ky(d:Nat)(a b:Nat->Int)(W:World):∀v:List Nat,(∀i∈v,i<8)->(Op.eqItems (d+1) 3 (Tryz.prog.cellsOf 3) (c8 a) (c8 b) v).run prog W=.ok (v.all λi=>a i==b i) W
 |[],_=>by simp[Op.eqItems]
 |i::v,h=>by
  have u:=Ky d a b W v λj X=>h j (by simp[X]);have J:=h i ZbR;simp only[Op.eqItems,Sem.run_bind,A2t a i J,A2t b i J,Result.andThen_ok,run_equalIn_int W d 3 .i64 .i64 _ _ (show Tryz.prog.underlying 3=some (.int .i64)by kernel_rfl)];cases G:a i==b i
  .simp [G]
  .simp only[Bool.not_true,Bool.false_eq_true,if_false,u,List.all_cons,G,Bool.true_and]
theorem Jm(a b:Nat->Int)(W:World):(Op.equalIn 10000 112 (.agg #[.int .i64 (a 0),.int .i64 (a 1),.int .i64 (a 2),.int .i64 (a 3),.int .i64 (a 4),.int .i64 (a 5),.int .i64 (a 6),.int .i64 (a 7)]) (.agg #[.int .i64 (b 0),.int .i64 (b 1),.int .i64 (b 2),.int .i64 (b 3),.int .i64 (b 4),.int .i64 (b 5),.int .i64 (b 6),.int .i64 (b 7)])).run prog W=.ok (OS a b) W:=by
 obtain⟨i,J⟩:∃i,Tryz.prog.info? 3=some i:=YcC.1 ZbG;have:=run_equalIn_array (P:=prog) W 9999 (t:=112) (e:=3) (n:=8) (c8 a) (c8 b) ZbG J;exact Zjg
theorem AaW(a:Nat->Int)(k:Nat)(v:Int)(h:k<8):(c8 a).setIfInBounds k (.int .i64 v)=c8 (λi=>if i=k then v else a i):=by
 match k,h with
 |0,_=>rfl
 |1,_=>rfl
 |2,_=>rfl
 |3,_=>rfl
 |4,_=>rfl
 |5,_=>rfl
 |6,_=>rfl
 |7,_=>rfl
theorem Blk.at8{a:Nat->Int}(h:Blk w n t (c8 a))(B:b<8):w.cell? ⟨n,b,none⟩=some (.int .i64 (a b)):=by
 rw[h.cell,A6A a b B]
theorem Blk.set8(h:Blk w n t (c8 vi))(B:b<8)(v:Int):Blk (w.setCell ⟨n,b,none⟩ (.int .i64 v)) n t (c8 (λi=>if i=b then v else vi i)):=by
 rw[<-AaW vi b v B];exact h.set b _
def Da(a:Nat->Int):Nat->Int
 |0=>0
 |k+1=>Da a k+a k
def In8(a:Nat->Int)(L J:Int):Prop:=∀i,i<8->L<=a i/\a i<=J
theorem In8.mono{a:Nat->Int}{L J N P:Int}(h:In8 a L J)(q:N<=L)(A:J<=P):In8 a N P:=λi J=>by have:=h i J;omega
theorem Jl{a:Nat->Int}{L J:Int}(h:In8 a L J):∀k,k<=8->L*k<=Da a k/\Da a k<=J*k
 |0,_=>by simp[Da]
 |k+1,B=>by
  have u:=Jl h k ZbC;have:=h k ZbC;simp only[Da,Ycw,Int.mul_add];omega
theorem A1T(a:Nat->Int)(w:World)(h:In8 a (-1000000) 1000000) :
  Calls prog 289 #[.agg #[.int .i64 (a 0),.int .i64 (a 1),.int .i64 (a 2),.int .i64 (a 3),.int .i64 (a 4),.int .i64 (a 5),.int .i64 (a 6),.int .i64 (a 7)]] w λe N=>e=.returned (.int .i64 (Da a 8))/\Ext w N:=by
 replace h:=Af h;go_enter func289,ntmps289;go_wp2;go_loopw [3,7] (λs i wr=>∃k:Nat,k<=8/\i=.int .i64 k/\s=.int .i64 (Da a k)/\Hid (Ext w wr)) (λ_ i _=>8-(intOf i).toNat)
 case atStart=>exact ZjU
 case round=>
  obtain⟨k,B,rfl,rfl,Z⟩:=hrel;by_cases O:k<8
  .have C:=λW=>GX a k O W
   have E:=Jl h.out k B;have F:=h.out k O;have q:Da a (k+1)=Da a k+a k:=rfl;generalize Da a k=s at *;generalize a k=x at *;replace q:=Af q;go_wp2;exact⟨⟨k+1,O,by simp,by rw[q.out],Z⟩,by simp[intOf];omega⟩
  .exact Zax
def Js(a b:Nat->Int):Nat->Nat->Int
 |_,0=>0
 |k,n+1=>if a k=b k then Js a b (k+1) n else if a k<b k then -1 else 1
def Iv(a b:Nat->Int):Int:=Js a b 0 8
theorem SA{a b:Nat->Int}:∀(n k:Nat),(∀i,k<=i->i<k+n->a i=b i)->Js a b k n=0
 |0,_,_=>rfl
 |n+1,k,h=>by
  rw[Js,Yao (h k ZbC ZbC)];exact SA n (k+1) λi q A=>h i ZbC ZbC
theorem A67(a b:Nat->Int)(w:World) :
  Calls prog 297 #[.agg #[.int .i64 (a 0),.int .i64 (a 1),.int .i64 (a 2),.int .i64 (a 3),.int .i64 (a 4),.int .i64 (a 5),.int .i64 (a 6),.int .i64 (a 7)],.agg #[.int .i64 (b 0),.int .i64 (b 1),.int .i64 (b 2),.int .i64 (b 3),.int .i64 (b 4),.int .i64 (b 5),.int .i64 (b 6),.int .i64 (b 7)]] w λe N=>e=.returned (.int .i64 (Iv a b))/\Ext w N:=by
 have m:=λW=>Jm a b W
 cases E:OS a b with
 |true=>
  rw[E]at m;go_enter func297,ntmps297;go_wp2;go_ret;refine⟨?_,((Ext.refl _).alloc _).alloc _⟩;rw[Iv,SA 8 0 λi _ h=>IX.1 E i ZbC];rfl
 |false=>
  rw[E]at m;have I:¬∀i,i<8->a i=b i:=λh=>by rw[IX.2 h]at E;cases E
  clear E;replace I:=Af I;have L:Hid (Blk ((w.alloc (.cells #[.int .i64 (a 0),.int .i64 (a 1),.int .i64 (a 2),.int .i64 (a 3),.int .i64 (a 4),.int .i64 (a 5),.int .i64 (a 6),.int .i64 (a 7)] 112)).alloc (.cells #[.int .i64 (b 0),.int .i64 (b 1),.int .i64 (b 2),.int .i64 (b 3),.int .i64 (b 4),.int .i64 (b 5),.int .i64 (b 6),.int .i64 (b 7)] 112)) w.heap.size 112 (c8 a)):=(Blk.new _ _ _).alloc _;have M:Hid (Blk ((w.alloc (.cells #[.int .i64 (a 0),.int .i64 (a 1),.int .i64 (a 2),.int .i64 (a 3),.int .i64 (a 4),.int .i64 (a 5),.int .i64 (a 6),.int .i64 (a 7)] 112)).alloc (.cells #[.int .i64 (b 0),.int .i64 (b 1),.int .i64 (b 2),.int .i64 (b 3),.int .i64 (b 4),.int .i64 (b 5),.int .i64 (b 6),.int .i64 (b 7)] 112)) (w.heap.size+1) 112 (c8 b)):=EV _ _ ZbR;have Z:Hid (Ext w ((w.alloc (.cells #[.int .i64 (a 0),.int .i64 (a 1),.int .i64 (a 2),.int .i64 (a 3),.int .i64 (a 4),.int .i64 (a 5),.int .i64 (a 6),.int .i64 (a 7)] 112)).alloc (.cells #[.int .i64 (b 0),.int .i64 (b 1),.int .i64 (b 2),.int .i64 (b 3),.int .i64 (b 4),.int .i64 (b 5),.int .i64 (b 6),.int .i64 (b 7)] 112))):=((Ext.refl _).alloc _).alloc _;go_enter func297,ntmps297;go_wp2;generalize ((w.alloc (.cells #[.int .i64 (a 0),.int .i64 (a 1),.int .i64 (a 2),.int .i64 (a 3),.int .i64 (a 4),.int .i64 (a 5),.int .i64 (a 6),.int .i64 (a 7)] 112)).alloc (.cells #[.int .i64 (b 0),.int .i64 (b 1),.int .i64 (b 2),.int .i64 (b 3),.int .i64 (b 4),.int .i64 (b 5),.int .i64 (b 6),.int .i64 (b 7)] 112))=G at *;go_loopw [5] (λi wr=>∃k:Nat,k<8/\i=.int .i64 k/\Hid ((¬∀i,k<=i->i<8->a i=b i)/\Iv a b=Js a b k (8-k)/\Blk wr w.heap.size 112 (c8 a)/\Blk wr (w.heap.size+1) 112 (c8 b)/\Ext w wr)) (λi _=>8-(intOf i).toNat)
  case atStart=>exact⟨0,by omega,rfl,λh=>I.out λi J=>h i ZbC J,rfl,L.out,M.out,Z.out⟩
  case round=>
   obtain⟨k,B,rfl,F⟩:=hrel;have Y:=F.out.2.2.1.at8 B;have c:=F.out.2.2.2.1.at8 B
   have C:Hid (Js a b k (8-k)=if a k=b k then Js a b (k+1) (8-(k+1))else if a k<b k then -1 else 1):=by
    rw[show 8-k=8-(k+1)+1 by omega];rfl
   have g:Hid (a k=b k->k+1<8/\¬∀i,k+1<=i->i<8->a i=b i):=λh=>by
    have q:¬∀i,k+1<=i->i<8->a i=b i:=λA=>F.out.1 λi K Q=>by
     by_cases e:i=k
     .rw [e];exact h
     .exact A i ZbC Q
    refine⟨?_,q⟩;by_cases S:k+1<8
    .exact S
    .exact absurd (λi K Q=>by omega) q
   generalize a k=x at *;generalize b k=y at *;by_cases X:x=y
   .have l:=g.out X
    have H:=C.out;rw[Yao X]at H;replace H:=Af (F.out.2.1.trans H);have V:=l.1;replace l:=Af l.2;go_wp2;go_quiet (fail);go_wp2;exact⟨⟨k+1,V,by simp,l.out,H.out,F.out.2.2.1,F.out.2.2.2.1,F.out.2.2.2.2.drewN _⟩,by simp[intOf];omega⟩
   .have H:=C.out
    rw[Yaj X]at H;replace H:=Af (F.out.2.1.trans H);by_cases O:x<y
    .rw [Yao O]at H
     go_wp2;go_quiet (fail);go_wp2;go_quiet (fail);go_wp2;exact ZiD
    .rw [Yaj O]at H
     go_wp2;go_quiet (fail);go_wp2;go_quiet (fail);go_wp2;exact ZiD
def Gj(R:List (Nat->Int))(k:Nat):Nat->Int:=R.getD k (λ_=>0)
def RowsAt(P:IntKind)(t:TypeId)(w:World)(v:Value)(R:List (Nat->Int)):Prop:=
 ∃(A:Option Addr) (c:Nat),v=.slice A R.length c/\R.length<=c/\c<=9223372036854775807 /\
  (0<R.length->∃(b o:Nat) (f:Array Value) (K:Nat×Nat),A=some ⟨b,o,none⟩/\w.heap[b]? = some (.cells f t K)/\∀k j,k<R.length->j<8->f[o+k*8+j]? = some (.int P (Gj R k j)))
theorem RowsAt.open_{v:Value}(h:RowsAt i t w v vx):∃(A:Option Addr) (c:Nat),v=.slice A vx.length c/\vx.length<=c/\c<=9223372036854775807 /\
  (0<vx.length->∃(b o:Nat),A=some ⟨b,o,none⟩/\b<w.heap.size/\∀k j,k<vx.length->j<8->w.cell? ⟨b,o+k*8+j,none⟩=some (.int i (Gj vx k j))):=by
 obtain⟨A,c,q,B,K,Q⟩:=h;refine⟨A,c,q,B,K,λF=>?_⟩;obtain⟨b,o,f,I,E,G,g⟩:=Q F;exact⟨b,o,E,Bv G,λk j C X=>(CU G).trans (g k j C X)⟩
def Qv(r a b:Nat->Int)(k:Nat):Int:=Da (λi=>r i*(a i-b i)) k
def Jw:List (Nat->Int)->(Nat->Int)->(Nat->Int)->Int
 |[],_,_=>0
 |r::R,a,b=>if Qv r a b 8<0 then -1 else if 0<Qv r a b 8 then 1 else Jw R a b
def IT(R:List (Nat->Int))(a b:Nat->Int):Int:=if Jw R a b=0 then Iv a b else Jw R a b
theorem RN{a:Nat->Int}:∀{k:Nat},(∀i,i<k->a i=0)->Da a k=0
 |0,_=>rfl
 |k+1,h=>by rw[Da,RN λi J=>h i ZbC,h k ZbC];rfl
theorem SU{a b:Nat->Int}(h:∀i,i<8->a i=b i):∀R,Jw R a b=0
 |[]=>rfl
 |r::R=>by
  have:Qv r a b 8=0:=RN λi J=>by rw[h i J,Int.sub_self,Int.mul_zero]
  rw[Jw,this,Yaj ZbC,Yaj ZbC,SU h R]
theorem A85(h:∀i,i<8->vi i=vH i)(R:List (Nat->Int)):IT R vi vH=0:=by
 rw[IT,SU h,Yao rfl,Iv,SA 8 0 λi _ J=>h i ZbC]
theorem Oh{a b:Nat->Int}(h:∀i,i<8->a i=b i):c8 a=c8 b:=by
 simp only[c8,h 0 ZbC,h 1 ZbC,h 2 ZbC,h 3 ZbC,h 4 ZbC,h 5 ZbC,h 6 ZbC,h 7 ZbC]
theorem Blk.set8'{a Y:Nat->Int}(h:Blk w n t (c8 a))(B:b<8)(v:Int)(q:Y b=v)(A:∀i,i<8->i≠b->Y i=a i):Blk (w.setCell ⟨n,b,none⟩ (.int .i64 v)) n t (c8 Y):=by
 rw[show c8 Y=c8 (λi=>if i=b then v else a i)from Oh λi J=>by
  by_cases e:i=b
  .rw [Yao e,e,q]
  .rw [Yaj e,A i J e]]
 exact h.set8 B v
def TN(a:Nat->Int)(k:Nat)(i:Nat):Int:=if i<k then a i else 0
theorem Kw{a:Nat->Int}(h:b<n):TN a n b=a b:=Yao h
theorem QT(h:¬b<n):TN vi n b=0:=Yaj h
theorem Blk.up8(h:Blk w n t (c8 (TN vi b)))(B:b<8){v:Int}(r:v=vi b):Blk (w.setCell ⟨n,b,none⟩ (.int .i64 v)) n t (c8 (TN vi (b+1))):=by
 refine h.set8' B v (by rw[Kw ZbC,r]) λi J A=>?_;by_cases q:i<b
 .rw [Kw q,Kw ZbC]
 .rw [QT q,QT ZbC]
theorem Blk.full8{a:Nat->Int}(h:Blk w n t (c8 (TN a 8))):Blk w n t (c8 a):=by
 rw[<-Oh (a:=TN a 8) λi J=>Kw J];exact h
def put8(w:World)(b:Nat)(a:Nat->Int):World:=(((((((w.setCell ⟨b,0,none⟩ (.int .i64 (a 0))).setCell ⟨b,1,none⟩ (.int .i64 (a 1))).setCell ⟨b,2,none⟩ (.int .i64 (a 2))).setCell ⟨b,3,none⟩ (.int .i64 (a 3))).setCell ⟨b,4,none⟩ (.int .i64 (a 4))).setCell ⟨b,5,none⟩ (.int .i64 (a 5))).setCell ⟨b,6,none⟩ (.int .i64 (a 6))).setCell ⟨b,7,none⟩ (.int .i64 (a 7))
theorem Ext.put8(h:Ext w p){b:Nat}(E:w.heap.size<=b)(a:Nat->Int):Ext w (put8 p b a):=
 (((((((h.set (p:=⟨b,0,none⟩) E _).set (p:=⟨b,1,none⟩) E _).set (p:=⟨b,2,none⟩) E _).set (p:=⟨b,3,none⟩) E _).set (p:=⟨b,4,none⟩) E _).set (p:=⟨b,5,none⟩) E _).set (p:=⟨b,6,none⟩) E _).set (p:=⟨b,7,none⟩) E _
def BV(m:Nat)(i:Nat):Int:=(m >>> i%2:Nat)
def rl(R:List (Nat->Int)):List Value:=R.flatMap λa=>(c8 a).toList
theorem VP(a:Nat->Int)(R:List (Nat->Int)):rl (a::R)=(c8 a).toList++rl R:=rfl
theorem A3i(R S:List (Nat->Int)):rl (R++S)=rl R++rl S:=by simp[rl]
theorem ID:∀R:List (Nat->Int),(rl R).length=R.length*8
 |[]=>rfl
 |a::R=>by rw[VP,Yac,ID R];simp[c8];omega
theorem A0x(a:Nat->Int)(R:List (Nat->Int))(k:Nat):Gj (a::R) (k+1)=Gj R k:=by simp[Gj]
theorem A0y:∀(R:List (Nat->Int)) (k j:Nat),k<R.length->j<8->(rl R)[k*8+j]? = some (.int .i64 (Gj R k j))
 |[],k,j,h,_=>by simp at h
 |a::R,0,j,_,X=>by
  rw[VP,Yaw (by simp[c8];omega),YcH,YaH,Ycx,A6A a j X];rfl
 |a::R,k+1,j,B,X=>by
  rw[VP,Yak (by simp[c8];omega),A0x,<-A0y R k j ZcZ X];congr 1;simp[c8];omega
theorem Aa4{u:Value}(h:u∈rl vx):u.oneCell'=true:=by
 simp only[rl,YeG]at h;obtain⟨a,_,Q⟩:=h;simp[c8]at Q;rcases Q with rfl | rfl | rfl | rfl | rfl | rfl | rfl | rfl<;>rfl
def OwnRows(t:TypeId)(base:Nat)(w:World)(v:Value)(R:List (Nat->Int)):Prop:=w.ownsRow base t 8 v R.length (rl R)
theorem OwnRows.rows{base:Nat}{v:Value}{R:List (Nat->Int)}(h:OwnRows t base w v R):RowsAt .i64 t w v R:=by
 obtain⟨q,A⟩:=h;rcases A with⟨rfl,c⟩ | ⟨g,cap,cur,rfl,_,hg,hc,hm,hsz,ht⟩
 .exact ⟨none,0,by rw[c],by omega,by omega,λF=>by omega⟩
 .refine ⟨_, cap, rfl, hc, by simpa [maxLen] using hm, λ_=>⟨g, 0, cur, (0, 0), rfl, hg, λk j B X=>?_⟩⟩
  have W:(cur.toList.take (R.length*8))[k*8+j]? = (rl R)[k*8+j]?:=by rw[ht]
  rw[YaK,Yao ZbC,A0y R k j B X]at W;rw[YaH];simpa using W
theorem OwnRows.form{v:Value}(h:OwnRows t n w v vx):∃A c,v=.slice A vx.length c:=by
 obtain⟨_,q⟩:=h;rcases q with⟨rfl,B⟩ | ⟨g,cap,cur,rfl,_⟩
 .exact ⟨none,0,by rw[B]⟩
 .exact ⟨_,_,rfl⟩
theorem OwnRows.ext{base:Nat}{v:Value}{R:List (Nat->Int)}(h:OwnRows t base w v R)(b:Ext w p):OwnRows t base p v R:=by
 obtain⟨q,A⟩:=h;refine⟨q,?_⟩;rcases A with A | ⟨g,cap,cur,h3,h4,hg,h5⟩
 .exact .inl A
 .exact .inr ⟨g,cap,cur,h3,h4,(b.block (Bv hg)).trans hg,h5⟩
theorem OwnRows.blk{base g:Nat}{R:List (Nat->Int)}{c:Nat}(q:base<=g)(E:Blk w g t (rl R).toArray)(G:c=R.length)(v:R.length<=1000000000000):OwnRows t base w (.slice (some ⟨g,0,none⟩) R.length c) R:=by
 subst G;exact⟨ID R,.inr ⟨g,_,_,rfl,q,E,Yai _,by simp only[maxLen];omega,by simp[ID],by rw[List.toList_toArray,Yar (by rw[ID];omega)]⟩⟩
theorem OwnRows.base_le{base:Nat}{v:Value}{R:List (Nat->Int)}(h:OwnRows t base w v R):∀k,v.ownBlock=some k->base<=k:=by
 intro k B;obtain⟨q,A⟩:=h;rcases A with⟨rfl,_⟩ | ⟨g,cap,cur,rfl,h4,hg,h5⟩
 .cases B
 .cases B;exact h4
def A21(t:TypeId)(q base:Nat)(w:World)(v x:Value)(R S:List (Nat->Int)):Prop:=
 ∃A c N,(Builtin.append_ #[q,q] q #[v,x]).run prog w=.ok (.slice A (R.length+S.length) c) N/\OwnRows t base N (.slice A (R.length+S.length) c) (R++S)/\w.grownBy N v.ownBlock
theorem Ol{base:Nat}{v x:Value}{R S:List (Nat->Int)}(h:OwnRows 36 base w v R)(C:RowsAt .i64 36 w x S)(B:0<S.length)(g:R.length+S.length<=1000000000000)(E:base<=w.heap.size):A21 36 30 base w v x R S:=by
 obtain⟨i,J,V,Y,a⟩:=info_parts (show(Tryz.prog.info? 36).map (λi=>(i.zero,i.size,i.bytes))=some (some (.agg (c8 λ_=>0)),8,64)by kernel_rfl);obtain⟨A,c,rfl,G,I,Z⟩:=C.open_;obtain⟨b,o,rfl,W,L⟩:=Z B
 have d:∀(q:Nat) (u:Value),(rl S)[q]? = some u->w.cell? ((⟨b,o,none⟩:Addr).add q)=some u:=by
  intro q u Q;have m:q<S.length*8:=by rw[<-ID];exact(Yae.1 Q).1
  have e:q=q/8*8+q%8:=by omega
  have s:=A0y S (q/8) (q%8) ZbC ZbC;rw[<-e,Q]at s;have F:o+q=o+q/8*8+q%8:=by omega
  rw[s,A1b,F];exact L (q/8) (q%8) ZbC ZbC
 obtain ⟨X, N, M, O, K, _⟩ := run_append_own (P := prog) w base 30 30 36 i _ 8 64 underlying30 J V Y a rfl ZbC
  v R.length (rl R) h ⟨b,o,none⟩ S.length c (rl S) (ID S) d (λu Q=>Aa4 Q) Zjn ZbC E
 have P:OwnRows 36 base N X (R++S):=by
  unfold OwnRows;rw[Yac,A3i];exact O
 obtain⟨A,l,rfl⟩:=P.form;rw[Yac]at M P;exact⟨A,l,N,M,P,K⟩
def Ot(R:List (Nat->Int))(w:World)(e:Ending)(N:World):Prop:=
 ∃(A:Option Addr) (c:Nat),e=.returned (.slice A R.length c)/\OwnRows 36 w.heap.size N (.slice A R.length c) R/\Ext w N
theorem Ext.grown'{a w N:World}{row:Option Nat}(h:Ext a w)(R:w.grownBy N row)(Y:∀k,row=some k->a.heap.size<=k):Ext a N:=Below.grown h R h.size Y
def Eb(k:Nat)(i:Nat):Int:=if i=k then -1 else 0
def Gs:Nat->List (Nat->Int)
 |0=>[]
 |k+1=>Eb (k+1)::Gs k
def revRows:List (Nat->Int):=BV 255::Gs 7
theorem Qm(a:Nat->Int)(w:World)(h:In8 a 0 65535) :
  Calls prog 298 #[.agg #[.int .i64 (a 0),.int .i64 (a 1),.int .i64 (a 2),.int .i64 (a 3),.int .i64 (a 4),.int .i64 (a 5),.int .i64 (a 6),.int .i64 (a 7)]] w λe N=>e=.returned (.bool true)/\Ext w N:=by
 replace h:=Af h;go_enter func298,ntmps298;go_wp2;go_loopw [6] (λi wr=>∃k:Nat,k<=8/\i=.int .i64 k/\Hid (Ext w wr)) (λi _=>8-(intOf i).toNat)
 case atStart=>exact⟨0,by omega,rfl,(Ext.refl _).alloc _⟩
 case round=>
  obtain⟨k,B,rfl,Z⟩:=hrel;by_cases O:k<8
  .have C:=λW=>GX a k O W
   have F:=h.out k O;generalize a k=x at *;have q:decide (x<0)=false:=ZiI
   have A:decide (65535<x)=false:=ZiI
   go_wp2;exact⟨⟨k+1,O,by simp,Z⟩,by simp[intOf];omega⟩
  .exact Zax
theorem Wz(a:Nat->Int)(w:World)(h:¬In8 a 0 65535) :
  Calls prog 298 #[.agg #[.int .i64 (a 0),.int .i64 (a 1),.int .i64 (a 2),.int .i64 (a 3),.int .i64 (a 4),.int .i64 (a 5),.int .i64 (a 6),.int .i64 (a 7)]] w λe N=>e=.returned (.bool false)/\Ext w N:=by
 replace h:=Af h;go_enter func298,ntmps298;go_wp2;go_loopw [6] (λi wr=>∃k:Nat,k<=8/\i=.int .i64 k/\Hid (Ext w wr/\∀i,i<k->0<=a i/\a i<=65535)) (λi _=>8-(intOf i).toNat)
 case atStart=>exact⟨0,by omega,rfl,(Ext.refl _).alloc _,λi J=>by omega⟩
 case round=>
  obtain⟨k,B,rfl,Z⟩:=hrel;by_cases O:k<8
  .have C:=λW=>GX a k O W
   have E:Hid (0<=a k/\a k<=65535->∀i,i<k+1->0<=a i/\a i<=65535):=λh i J=>by
    by_cases e:i=k
    .rw [e];exact h
    .exact Z.out.2 i ZbC
   generalize a k=x at *;by_cases q:x<0
   .have F:decide (x<0)=true:=ZjI
    go_wp2;go_ret;exact⟨rfl,Z.out.1⟩
   .have F:decide (x<0)=false:=ZjI
    by_cases A:65535<x
    .have R:decide (65535<x)=true:=by simpa using A
     go_wp2;go_ret;exact⟨rfl,Z.out.1⟩
    .have R:decide (65535<x)=false:=by simpa using A
     go_wp2;exact⟨⟨k+1,O,by simp,Z.out.1,E.out ⟨by omega,by omega⟩⟩,by simp[intOf];omega⟩
  .obtain rfl:k=8:=by omega
   exact absurd Z.out.2 h.out
def QA(a b:Nat->Int)(k i:Nat):Int:=if i<k then a i+b i else a i
def CY(a b:Nat->Int)(i:Nat):Int:=a i+b i
theorem A3E(a b:Nat->Int)(w:World)(t:In8 a 0 65535)(E:In8 b 0 65535)(h:In8 (CY a b) 0 65535) :
  Calls prog 323 #[.agg #[.int .i64 (a 0),.int .i64 (a 1),.int .i64 (a 2),.int .i64 (a 3),.int .i64 (a 4),.int .i64 (a 5),.int .i64 (a 6),.int .i64 (a 7)],.agg #[.int .i64 (b 0),.int .i64 (b 1),.int .i64 (b 2),.int .i64 (b 3),.int .i64 (b 4),.int .i64 (b 5),.int .i64 (b 6),.int .i64 (b 7)]] w λe N=>e=.returned (.tuple #[.agg #[.int .i64 (CY a b 0),.int .i64 (CY a b 1),.int .i64 (CY a b 2),.int .i64 (CY a b 3),.int .i64 (CY a b 4),.int .i64 (CY a b 5),.int .i64 (CY a b 6),.int .i64 (CY a b 7)],.int .i64 0])/\Ext w N:=by
 replace h:=Af h;replace t:=Af t;replace E:=Af E;go_enter func323,ntmps323;go_wp2;go_loopw [7] (λi wr=>∃k:Nat,k<=8/\i=.int .i64 k/\Hid (Blk wr w.heap.size 112 (c8 (QA a b k))/\Blk wr (w.heap.size+1) 112 (c8 b)/\Blk wr (w.heap.size+2) 112 (c8 (λ_=>0))/\Ext w wr)) (λi _=>8-(intOf i).toNat)
 case atStart=>exact⟨0,by omega,rfl,((Blk.new _ _ _).alloc _).alloc _,(EV _ _ ZbR).alloc _,EV _ _ ZbR,(((Ext.refl _).alloc _).alloc _).alloc _⟩
 case round=>
  obtain⟨k,B,rfl,m⟩:=hrel;by_cases O:k<8
  .have C:wr.cell? ⟨w.heap.size,k,none⟩=some (.int .i64 (a k)):=by
    rw[m.out.1.at8 O];simp[QA]
   have n:=m.out.1.frozen k;have M:=m.out.2.1.at8 O;have j:=t.out k O;have L:=E.out k O
   have g:Hid (Blk (wr.setCell ⟨w.heap.size,k,none⟩ (.int .i64 (a k+b k))) w.heap.size 112 (c8 (QA a b (k+1)))):=by
    refine m.out.1.set8' O _ (by simp[QA]) λi J F=>?_;by_cases q:i<k
    .simp [QA,q,show i<k+1 by omega]
    .simp [QA,q,show¬i<k+1 by omega]
   generalize a k=x at *;generalize b k=y at *;go_wp2;go_region;go_wp2;exact⟨⟨k+1,O,by simp,g.out.drew,(m.out.2.1.far ZbV _).drew,(m.out.2.2.1.far ZbV _).drew,(m.out.2.2.2.set (p:=⟨w.heap.size,k,none⟩) (Yai _) _).drew⟩,by simp[intOf];omega⟩
  .obtain rfl:k=8:=by omega
   have p:Blk wr w.heap.size 112 (c8 (CY a b)):=by
    rw[<-Oh (a:=QA a b 8) λi J=>by simp[QA,CY,J]];exact m.out.1
   have u:(wr).cell? ⟨w.heap.size,0,none⟩=some (.int .i64 (CY a b 0)):=(p).cell 0;have G:(wr).cell? ⟨w.heap.size,1,none⟩=some (.int .i64 (CY a b 1)):=(p).cell 1;have X:(wr).cell? ⟨w.heap.size,2,none⟩=some (.int .i64 (CY a b 2)):=(p).cell 2;have W:(wr).cell? ⟨w.heap.size,3,none⟩=some (.int .i64 (CY a b 3)):=(p).cell 3;have Z:(wr).cell? ⟨w.heap.size,4,none⟩=some (.int .i64 (CY a b 4)):=(p).cell 4;have c:(wr).cell? ⟨w.heap.size,5,none⟩=some (.int .i64 (CY a b 5)):=(p).cell 5;have r:(wr).cell? ⟨w.heap.size,6,none⟩=some (.int .i64 (CY a b 6)):=(p).cell 6;have s:(wr).cell? ⟨w.heap.size,7,none⟩=some (.int .i64 (CY a b 7)):=(p).cell 7;go_wp2_with fail;refine(Qm _ _ h.out).mono ?_;rintro e A ⟨rfl,Q⟩;have Y:=p.ext Q;have d:=m.out.2.2.1.ext Q;clear u G X W Z c r s;have u:(A).cell? ⟨w.heap.size,0,none⟩=some (.int .i64 (CY a b 0)):=(Y).cell 0;have G:(A).cell? ⟨w.heap.size,1,none⟩=some (.int .i64 (CY a b 1)):=(Y).cell 1;have X:(A).cell? ⟨w.heap.size,2,none⟩=some (.int .i64 (CY a b 2)):=(Y).cell 2;have W:(A).cell? ⟨w.heap.size,3,none⟩=some (.int .i64 (CY a b 3)):=(Y).cell 3;have Z:(A).cell? ⟨w.heap.size,4,none⟩=some (.int .i64 (CY a b 4)):=(Y).cell 4;have c:(A).cell? ⟨w.heap.size,5,none⟩=some (.int .i64 (CY a b 5)):=(Y).cell 5;have r:(A).cell? ⟨w.heap.size,6,none⟩=some (.int .i64 (CY a b 6)):=(Y).cell 6;have s:(A).cell? ⟨w.heap.size,7,none⟩=some (.int .i64 (CY a b 7)):=(Y).cell 7;have f:(A).cell? ⟨w.heap.size+2,0,none⟩=some (.int .i64 0):=(d).cell 0;have l:(A).cell? ⟨w.heap.size+2,1,none⟩=some (.int .i64 0):=(d).cell 1;have V:(A).cell? ⟨w.heap.size+2,2,none⟩=some (.int .i64 0):=(d).cell 2;have v:(A).cell? ⟨w.heap.size+2,3,none⟩=some (.int .i64 0):=(d).cell 3;have H:(A).cell? ⟨w.heap.size+2,4,none⟩=some (.int .i64 0):=(d).cell 4;have P:(A).cell? ⟨w.heap.size+2,5,none⟩=some (.int .i64 0):=(d).cell 5;have R:(A).cell? ⟨w.heap.size+2,6,none⟩=some (.int .i64 0):=(d).cell 6;have T:(A).cell? ⟨w.heap.size+2,7,none⟩=some (.int .i64 0):=(d).cell 7;have z:=(d).frozen 0;have I:=(d).frozen 1;have K:=(d).frozen 2;have S:=(d).frozen 3;have o:=(d).frozen 4;have U:=(d).frozen 5;have z6:=(d).frozen 6;have z7:=(d).frozen 7;replace d:=Af d;replace Y:=Af Y;replace p:=Af p;go_wp2;refine bodyPost_ret (v:=.tuple #[.agg #[.int .i64 (CY a b 0),.int .i64 (CY a b 1),.int .i64 (CY a b 2),.int .i64 (CY a b 3),.int .i64 (CY a b 4),.int .i64 (CY a b 5),.int .i64 (CY a b 6),.int .i64 (CY a b 7)],.int .i64 0]) (by simp[results,Tryz.results323,go_sem,f,l,V,v,H,P,R,T]) rfl ⟨rfl,?_⟩;exact(m.out.2.2.2.trans Q).put8 (b:=w.heap.size+2) ZbC (CY a b)
theorem A8P:∀m:Nat,m<256->∀k:Nat,k<8->bits BinOp.or IntKind.u8 (m:Int) (2^k)=(m ||| 2^k:Nat):=ZjV
def suppTo(a:Nat->Int):Nat->Nat
 |0=>0
 |k+1=>if 0<a k then suppTo a k |||2^k else suppTo a k
theorem JQ(a:Nat->Int):∀k,suppTo a k<2^k
 |0=>by simp[suppTo]
 |k+1=>by
  have u:=JQ a k;have A:2^k<2^(k+1):=Nat.pow_lt_pow_right ZbC ZbC;rw[suppTo];split
  .exact YeC ZbC A
  .omega
theorem RM(a:Nat->Int):∀k i,i<k->(suppTo a k).testBit i=decide (0<a i)
 |0,i,h=>by omega
 |k+1,i,h=>by
  have I:=JQ a k;rw[suppTo];by_cases e:i=k
  .subst e
   split
   .rename_i q;rw[YeP,Nat.testBit_two_pow_self,Bool.or_true];simp[q]
   .rename_i q;rw[Nat.testBit_lt_two_pow I];simp[q]
  .have u:=RM a k i ZbC
   split
   .rw [YeP,Nat.testBit_two_pow_of_ne (λh=>e h.symm),Bool.or_false,u]
   .exact u
theorem Zv(a:Nat->Int)(w:World) :
  Calls prog 299 #[.agg #[.int .i64 (a 0),.int .i64 (a 1),.int .i64 (a 2),.int .i64 (a 3),.int .i64 (a 4),.int .i64 (a 5),.int .i64 (a 6),.int .i64 (a 7)]] w λe N=>e=.returned (.int .u8 (suppTo a 8))/\Ext w N:=by
 go_enter func299,ntmps299;go_wp2;go_loopw [3,7] (λs i wr=>∃k:Nat,k<=8/\i=.int .i64 k/\s=.int .u8 (suppTo a k)/\Hid (Ext w wr)) (λ_ i _=>8-(intOf i).toNat)
 case atStart=>exact ZjU
 case round=>
  obtain⟨k,B,rfl,rfl,Z⟩:=hrel;by_cases O:k<8
  .have C:=λW=>GX a k O W
   have E:=JQ a k;have r:suppTo a k<256:=Yaq E (Ybo (n:=2) ZbC (show k<=8 by omega));clear E;have A:Hid (suppTo a (k+1)=if 0<a k then suppTo a k ||| 2^k else suppTo a k):=rfl;generalize suppTo a k=s at *;generalize a k=x at *;by_cases q:0<x
   .have H:=A.out
    rw[Yao q]at H;replace H:=Af H;clear A
    have v:Hid ((2:Int)^k%256=2^k):=by
     rcases lt8 O with rfl | rfl | rfl | rfl | rfl | rfl | rfl | rfl<;>rfl
    go_wp2;exact⟨⟨k+1,O,by simp,by rw[H.out,v.out,A8P s r k O],Z⟩,by simp[intOf];omega⟩
   .have H:=A.out
    rw[Yaj q]at H;replace H:=Af H;clear A;go_wp2;exact⟨⟨k+1,O,by simp,by rw[H.out],Z⟩,by simp[intOf];omega⟩
  .exact Zax
theorem Ace:∀m:Nat,m<256->∀k:Nat,k<8->(bits BinOp.and IntKind.u8 ((m:Int)/2^k) 1==1)=m.testBit k:=ZjV
theorem Abf(m k:Nat)(w:World)(v:m<256)(B:k<8) :
  Calls prog 232 #[.int .u8 m,.int .i64 k] w λe N=>e=.returned (.bool (m.testBit k))/\w=N:=by
 go_enter func232,ntmps232;go_wp2;go_ret;exact⟨by rw[Ace m v k B];rfl,rfl⟩
def Lu(i:Nat)(n:Int)(j:Nat):Int:=if j=i then n else 0
def cb8(s:Nat->Bool):Array Value:=#[.bool (s 0),.bool (s 1),.bool (s 2),.bool (s 3),.bool (s 4),.bool (s 5),.bool (s 6),.bool (s 7)]
theorem A8L(s:Nat->Bool)(k:Nat)(h:k<8):(cb8 s)[k]? = some (.bool (s k)):=by
 rcases lt8 h with rfl | rfl | rfl | rfl | rfl | rfl | rfl | rfl<;>rfl
theorem PH{a b:Nat->Bool}(h:∀i,i<8->a i=b i):cb8 a=cb8 b:=by
 simp only[cb8,h 0 ZbC,h 1 ZbC,h 2 ZbC,h 3 ZbC,h 4 ZbC,h 5 ZbC,h 6 ZbC,h 7 ZbC]
theorem A8K(a:Nat->Bool)(k:Nat)(v:Bool)(h:k<8):(cb8 a).setIfInBounds k (.bool v)=cb8 (λi=>if i=k then v else a i):=by
 rcases lt8 h with rfl | rfl | rfl | rfl | rfl | rfl | rfl | rfl<;>rfl
theorem Blk.atb{s:Nat->Bool}(h:Blk w n t (cb8 s))(B:b<8):w.cell? ⟨n,b,none⟩=some (.bool (s b)):=by
 rw[h.cell,A8L s b B]
theorem Blk.setb{a Y:Nat->Bool}(h:Blk w n t (cb8 a))(B:b<8)(v:Bool)(q:Y b=v)(A:∀i,i<8->i≠b->Y i=a i):Blk (w.setCell ⟨n,b,none⟩ (.bool v)) n t (cb8 Y):=by
 rw[show cb8 Y=(cb8 a).setIfInBounds b (.bool v)by
  rw[A8K a b v B];refine PH λi J=>?_;by_cases e:i=b
  .rw [Yao e,e,q]
  .rw [Yaj e,A i J e]]
 exact h.set b _
def seenTo(R:List (Nat->Int)):Nat->Nat->Bool
 |0,_=>false
 |k+1,j=>seenTo R k j||(Gj R k j != 0)
def HH(R:List (Nat->Int))(k j i:Nat):Bool:=if i<j then seenTo R (k+1) i else seenTo R k i
def ZN(R:List (Nat->Int))(k j:Nat):Prop:=-1000<=Gj R k j/\Gj R k j<=1000/\(Gj R k j<0->seenTo R k j=true)
def OValid(R:List (Nat->Int)):Prop:=R.length<=24/\∀k j,k<R.length->j<8->ZN R k j
open Classical in
noncomputable def ovB (R:List (Nat->Int)):Bool:=decide (OValid R)
theorem A5K(h:OValid vx):ovB vx=true:=by simp[ovB,h]
theorem UI(h:¬OValid vx):ovB vx=false:=by simp[ovB,h]
theorem OValid.in8(h:OValid vx):∀r∈vx,In8 r (-1000) 1000:=λr Y i J=>by
 obtain⟨k,B,rfl⟩:=List.mem_iff_getElem.1 Y;have:=h.2 k i B J;have e:Gj vx k=vx[k]:=by simp[Gj,Yaa,Yab B]
 unfold ZN at this;rw[e]at this;exact⟨this.1,this.2.1⟩
theorem A0I(v:Value)(R:List (Nat->Int))(w:World)(h:RowsAt .i64 36 w v R) :
  Calls prog 155 #[v] w λe w'=>e = .returned (.bool (ovB R))/\Ext w w':=by
 obtain ⟨A,c,rfl,hc,hm,hx⟩:=h.open_
 clear h
 replace hx:=Af hx
 by_cases hlen:24<R.length
 .have hF:Hid (ovB R=false):=UI λh=>by have:=h.1; omega
  go_enter func155,ntmps155
  go_wp2
  go_ret
  exact ⟨by rw [hF.out];rfl,Ext.refl _⟩
 .go_enter func155,ntmps155
  go_wp2
  go_loopw [13] (λi wr=>∃k:Nat,k<=R.length/\i = .int .i64 k/\Hid ((∀k' j,k'<k->j<8->ZN R k' j)/\Blk wr w.heap.size 315 (cb8 (seenTo R k))/\Ext w wr)) (λi _=>R.length-(intOf i).toNat)
  case atStart=>exact ⟨0,by omega,rfl,λk' j h=>by omega,Blk.new _ _ _,(Ext.refl _).alloc _⟩
  case round=>
   obtain ⟨k,hk,rfl,hI⟩:=hrel
   by_cases hlt:k<R.length
   .obtain ⟨g, o, rfl, hgl, hcl⟩:=hx.out (by omega)
    replace hcl:=Af λj (hj:j<8)=>(hI.out.2.2.cell (p:=⟨g,o+k*8+j,none⟩) hgl).trans (hcl k j hlt hj)
    have hok:Hid (∀j,ZN R k j↔-1000<=Gj R k j/\Gj R k j<=1000/\(Gj R k j<0->seenTo R k j=true)):=λj=>Ydt
    have hse:Hid (∀j,seenTo R (k+1) j=(seenTo R k j||(Gj R k j != 0))):=λj=>rfl
    generalize Gj R k=r at *
    have r0:(wr).cell? ⟨g,o+k*8,none⟩=some (.int .i64 (r 0)):=hcl.out 0 (by omega)
    have r1:(wr).cell? ⟨g,o+k*8+1,none⟩=some (.int .i64 (r 1)):=hcl.out 1 (by omega)
    have r2:(wr).cell? ⟨g,o+k*8+2,none⟩=some (.int .i64 (r 2)):=hcl.out 2 (by omega)
    have r3:(wr).cell? ⟨g,o+k*8+3,none⟩=some (.int .i64 (r 3)):=hcl.out 3 (by omega)
    have r4:(wr).cell? ⟨g,o+k*8+4,none⟩=some (.int .i64 (r 4)):=hcl.out 4 (by omega)
    have r5:(wr).cell? ⟨g,o+k*8+5,none⟩=some (.int .i64 (r 5)):=hcl.out 5 (by omega)
    have r6:(wr).cell? ⟨g,o+k*8+6,none⟩=some (.int .i64 (r 6)):=hcl.out 6 (by omega)
    have r7:(wr).cell? ⟨g,o+k*8+7,none⟩=some (.int .i64 (r 7)):=hcl.out 7 (by omega)
    have hB1:Hid (Blk (wr.alloc (.cells #[.int .i64 (r 0),.int .i64 (r 1),.int .i64 (r 2),.int .i64 (r 3),.int .i64 (r 4),.int .i64 (r 5),.int .i64 (r 6),.int .i64 (r 7)] 36)) w.heap.size 315 (cb8 (HH R k 0))):=by
     have:=hI.out.2.1.alloc (.cells #[.int .i64 (r 0),.int .i64 (r 1),.int .i64 (r 2),.int .i64 (r 3),.int .i64 (r 4),.int .i64 (r 5),.int .i64 (r 6),.int .i64 (r 7)] 36)
     rw [PH (b:=HH R k 0) λi _=>by simp [HH]] at this
     exact this
    have hE1:Hid (Ext w (wr.alloc (.cells #[.int .i64 (r 0),.int .i64 (r 1),.int .i64 (r 2),.int .i64 (r 3),.int .i64 (r 4),.int .i64 (r 5),.int .i64 (r 6),.int .i64 (r 7)] 36))):=hI.out.2.2.alloc _
    replace hI:=Af hI.out.1
    go_wp2
    generalize (wr.alloc (.cells #[.int .i64 (r 0),.int .i64 (r 1),.int .i64 (r 2),.int .i64 (r 3),.int .i64 (r 4),.int .i64 (r 5),.int .i64 (r 6),.int .i64 (r 7)] 36))=w2 at *
    clear r0 r1 r2 r3 r4 r5 r6 r7 hcl
    go_loopw [18] (λi wr=>∃j:Nat,j<=8/\i = .int .i64 j/\Hid ((∀j',j'<j->ZN R k j')/\Blk wr w.heap.size 315 (cb8 (HH R k j))/\Ext w wr)) (λi _=>8-(intOf i).toNat)
    case atStart=>exact ⟨0,by omega,rfl,λj' h=>by omega,hB1.out,hE1.out⟩
    case round=>
     obtain ⟨j,hj,rfl,hJ⟩:=hrel
     by_cases hj8:j<8
     .have hix:=λW=>TR r j hj8 W
      have xs:wr.cell? ⟨w.heap.size,j,none⟩=some (.bool (seenTo R k j)):=by rw [hJ.out.2.1.atb hj8];simp [HH]
      have xf:=hJ.out.2.1.frozen j
      have hok1:=Af (hok.out j)
      have hse1:=Af (hse.out j)
      have hbad:Hid (¬ZN R k j->ovB R=false):=λhn=>UI λhv=>hn (hv.2 k j hlt hj8)
      have hgood:Hid (ZN R k j->∀j',j'<j+1->ZN R k j'):=λhg j' h'=>by
       by_cases e:j'=j
       .rw [e];exact hg
       .exact hJ.out.1 j' (by omega)
      have hset:Hid (∀v,v=seenTo R (k+1) j->Blk (wr.setCell ⟨w.heap.size,j,none⟩ (.bool v)) w.heap.size 315 (cb8 (HH R k (j+1)))):=λv hv=>by
       refine hJ.out.2.1.setb hj8 _ (by simp [HH,hv]) λi hi hne=>?_
       by_cases h1:i<j
       .simp [HH,h1,show i<j+1 by omega]
       .simp [HH,h1,show ¬i<j+1 by omega]
      have hE2:Hid (∀v,Ext w (wr.setCell ⟨w.heap.size,j,none⟩ (.bool v))):=λv=>hJ.out.2.2.set (p:=⟨w.heap.size,j,none⟩) (Yai _) _
      have hE0:Hid (Ext w wr):=hJ.out.2.2
      clear hJ
      generalize seenTo R k j=s at *
      generalize r j=x at *
      by_cases h1:x < -1000
      .have h1':decide (x < -1000)=true:=by simpa using h1
       go_wp2
       go_ret
       exact ⟨by rw [hbad.out λh=>by have:=hok1.out.1 h;omega];rfl,hE0.out⟩
      .have h1':decide (x < -1000)=false:=by simpa using h1
       by_cases h2:1000<x
       .have h2':decide (1000<x)=true:=by simpa using h2
        go_wp2
        go_ret
        exact ⟨by rw [hbad.out λh=>by have:=hok1.out.1 h;omega];rfl,hE0.out⟩
       .have h2':decide (1000<x)=false:=by simpa using h2
        by_cases h3:x<0
        .have h3':decide (x<0)=true:=by simpa using h3
         cases s with
         | false=>
          go_wp2
          go_ret
          exact ⟨by rw [hbad.out λh=>by have:=(hok1.out.1 h).2.2 h3;cases this];rfl,hE0.out⟩
         | true=>
          go_wp2
          exact ⟨⟨j+1,hj8,by simp,hgood.out (hok1.out.2 ⟨by omega,by omega,λ_=>rfl⟩),hset.out _ (by rw [hse1.out];rfl),hE2.out _⟩,by simp [intOf];omega⟩
        .have h3':decide (x<0)=false:=by simpa using h3
         cases s with
         | false=>
          by_cases h4:x=0
          .subst h4
           go_wp2
           exact ⟨⟨j+1,hj8,by simp,hgood.out (hok1.out.2 ⟨by omega,by omega,λh=>by omega⟩),hset.out _ (by rw [hse1.out];rfl),hE2.out _⟩,by simp [intOf];omega⟩
          .have h4':(x != 0)=true:=by simpa using h4
           go_wp2
           exact ⟨⟨j+1,hj8,by simp,hgood.out (hok1.out.2 ⟨by omega,by omega,λh=>by omega⟩),hset.out _ (by rw [hse1.out,h4'];rfl),hE2.out _⟩,by simp [intOf];omega⟩
         | true=>
          go_wp2
          exact ⟨⟨j+1,hj8,by simp,hgood.out (hok1.out.2 ⟨by omega,by omega,λh=>by omega⟩),hset.out _ (by rw [hse1.out];rfl),hE2.out _⟩,by simp [intOf];omega⟩
     .obtain rfl:j=8:=by omega
      go_wp2
      refine ⟨⟨k+1,hlt,by simp,λk' j' h1 h2=>?_,?_,hJ.out.2.2⟩,by simp [intOf];omega⟩
      .by_cases e:k'=k
       .rw [e];exact hJ.out.1 j' h2
       .exact hI.out k' j' (by omega) h2
      .have:=hJ.out.2.1
       rwa [PH (b:=seenTo R (k+1)) λi hi=>by simp [HH,hi]] at this
   .obtain rfl:k=R.length:=by omega
    have hT:Hid (ovB R=true):=A5K ⟨by omega,λk j h1 h2=>hI.out.1 k j h1 h2⟩
    go_wp2
    go_ret
    exact ⟨by rw [hT.out];rfl,hI.out.2.2⟩
theorem OwnRows.base_mono{base y:Nat}{v:Value}{R:List (Nat->Int)}(h:OwnRows t base w v R)(E:y<=base):OwnRows t y w v R:=by
 obtain⟨q,A⟩:=h;refine⟨q,?_⟩;rcases A with A | ⟨g,cap,cur,h3,h4,h5⟩
 .exact .inl A
 .exact .inr ⟨g,cap,cur,h3,by omega,h5⟩
theorem A0v(a b:Nat->Int)(W:World):(Op.equalIn 10000 36 (.agg #[.int .i64 (a 0),.int .i64 (a 1),.int .i64 (a 2),.int .i64 (a 3),.int .i64 (a 4),.int .i64 (a 5),.int .i64 (a 6),.int .i64 (a 7)]) (.agg #[.int .i64 (b 0),.int .i64 (b 1),.int .i64 (b 2),.int .i64 (b 3),.int .i64 (b 4),.int .i64 (b 5),.int .i64 (b 6),.int .i64 (b 7)])).run prog W=.ok (OS a b) W:=by
 obtain⟨i,J⟩:∃i,Tryz.prog.info? 3=some i:=YcC.1 ZbG;have:=run_equalIn_array (P:=prog) W 9999 (t:=36) (e:=3) (n:=8) (c8 a) (c8 b) ZbG J;exact Zjg
def MQ(a b:Nat->Int)(i:Nat):Int:=a i-b i
def EL(d:Nat->Int):Nat->Nat->Int
 |_,0=>0
 |k,n+1=>if d k=0 then EL d (k+1) n else if d k<0 then -1 else 1
def Ib(r d:Nat->Int):Int:=Da (λi=>r i*d i) 8
def It:List (Nat->Int)->(Nat->Int)->Int
 |[],d=>EL d 0 8
 |r::R,d=>if Ib r d<0 then -1 else if 0<Ib r d then 1 else It R d
theorem Mu(a b:Nat->Int):∀(n k:Nat),Js a b k n=EL (MQ a b) k n
 |0,_=>rfl
 |n+1,k=>by
  rw[Js,EL,Mu a b n (k+1)];have e:MQ a b k=a k-b k:=rfl;generalize MQ a b k=d at *;by_cases h:a k=b k
  .rw [Yao h,Yao ZbC]
  .by_cases q:a k<b k
   .simp only[Yaj h,Yao q];rw[Yaj ZbC,Yao ZbC]
   .simp only[Yaj h,Yaj q];exact ZjW
theorem EP(a b:Nat->Int):∀R:List (Nat->Int),IT R a b=It R (MQ a b)
 |[]=>by rw[IT,Jw,Yao rfl];exact Mu a b 8 0
 |r::R=>by
  have u:=EP a b R;unfold IT at u ⊢;rw[Jw,It,<-u];show(if(if Qv r a b 8<0 then _ else _)=0 then _ else _)=if Qv r a b 8<0 then _ else if 0<Qv r a b 8 then _ else _
  by_cases q:Qv r a b 8<0
  .simp only[Yao q];rw[Yaj ZbC]
  .simp only[Yaj q]
   by_cases A:0<Qv r a b 8
   .simp only[Yao A];rw[Yaj ZbC]
   .simp only[Yaj A]
theorem Uw(a b:Nat->Int):∀k,Da (λi=>a i+b i) k=Da a k+Da b k
 |0=>rfl
 |k+1=>by simp only[Da,Uw a b k];omega
theorem Uv(a:Nat->Int):∀k,Da (λi=>-(a i)) k=-(Da a k)
 |0=>rfl
 |k+1=>by simp only[Da,Uv a k];omega
theorem Jk{a b:Nat->Int}:∀{k:Nat},(∀i,i<k->a i=b i)->Da a k=Da b k
 |0,_=>rfl
 |k+1,h=>by rw[Da,Da,Jk λi J=>h i ZbC,h k ZbC]
theorem A3O(r d e:Nat->Int):Ib r (CY d e)=Ib r d+Ib r e:=by
 unfold Ib;rw[<-Uw];exact Jk λi _=>by simp only[CY,Int.mul_add]
theorem A3N(r d:Nat->Int):Ib r (λi=>-(d i))=-(Ib r d):=by
 unfold Ib;rw[<-Uv];exact Jk λi _=>by rw[YeR]
theorem Zb(h:∀i,i<8->vH i=uU i):Ib vi vH=Ib vi uU:=Jk λi J=>by rw[h i J]
theorem Qg{d e:Nat->Int}:∀(n k:Nat),(∀i,k<=i->i<k+n->d i=e i)->EL d k n=EL e k n
 |0,_,_=>rfl
 |n+1,k,h=>by rw[EL,EL,h k ZbC ZbC,Qg n (k+1) λi q A=>h i ZbC ZbC]
theorem IS{d e:Nat->Int}(h:∀i,i<8->d i=e i):∀R:List (Nat->Int),It R d=It R e
 |[]=>Qg 8 0 λi _ J=>h i ZbC
 |r::R=>by rw[It,It,Zb h,IS h R]
theorem Ux(d:Nat->Int):∀(n k:Nat),EL d k n=-1\/EL d k n=0\/EL d k n=1
 |0,_=>.inr (.inl rfl)
 |n+1,k=>by
  rw[EL];split
  .exact Ux d n (k+1)
  .split
   .exact .inl rfl
   .exact .inr (.inr rfl)
theorem Yx(d:Nat->Int):∀R:List (Nat->Int),It R d=-1\/It R d=0\/It R d=1
 |[]=>Ux d 8 0
 |r::R=>by
  rw[It];split
  .exact .inl rfl
  .split
   .exact .inr (.inr rfl)
   .exact Yx d R
theorem Uy(d:Nat->Int):∀(n k:Nat),EL (λi=>-(d i)) k n=-(EL d k n)
 |0,_=>rfl
 |n+1,k=>by
  simp only[EL];rw[Uy d n (k+1)];by_cases h:d k=0
  .rw [Yao h,Yao ZbC]
  .rw [Yaj h, Yaj ZbC]
   by_cases q:d k<0
   .rw [Yao q,Yaj ZbC];rfl
   .rw [Yaj q,Yao ZbC]
theorem Yy(d:Nat->Int):∀R:List (Nat->Int),It R (λi=>-(d i))=-(It R d)
 |[]=>Uy d 8 0
 |r::R=>by
  simp only[It];rw[A3N,Yy d R];by_cases h:Ib r d<0
  .rw [Yao h,Yaj ZbC,Yao ZbC];rfl
  .rw [Yaj h]
   by_cases q:0<Ib r d
   .rw [Yao q,Yao ZbC]
   .rw [Yaj q,Yaj ZbC,Yaj ZbC]
theorem RV{d:Nat->Int}:∀(n k:Nat),EL d k n=0->∀i,k<=i->i<k+n->d i=0
 |0,_,_,i,q,A=>by omega
 |n+1,k,h,i,q,A=>by
  rw[EL]at h;split at h
  .rename_i c
   by_cases e:i=k
   .rw [e];exact c
   .exact RV n (k+1) h i ZbC ZbC
  .split at h<;>omega
theorem UM{d:Nat->Int}:∀{R:List (Nat->Int)},It R d=0->∀i,i<8->d i=0
 |[],h,i,J=>RV 8 0 h i ZbC ZbC
 |r::R,h,i,J=>by
  rw[It]at h;split at h
  .omega
  .split at h
   .omega
   .exact UM h i J
theorem Uz{d e:Nat->Int}:∀(n k:Nat),0<=EL d k n->0<=EL e k n->(0<=EL (CY d e) k n/\(0<EL d k n\/0<EL e k n->0<EL (CY d e) k n))
 |0,_,_,_=>⟨by simp[EL],by simp[EL]⟩
 |n+1,k,q,A=>by
  rw[EL]at q A;simp only[EL];have t:CY d e k=d k+e k:=rfl;by_cases B:d k=0
  .rw [Yao B]at q ⊢
   by_cases b:e k=0
   .rw [Yao b]at A ⊢
    rw[Yao ZbC];exact Uz n (k+1) q A
   .rw [Yaj b]at A ⊢
    by_cases I:e k<0
    .rw [Yao I]at A;omega
    .rw [Yaj I,Yaj ZbC,Yaj ZbC];exact ZjX
  .rw [Yaj B]at q ⊢
   by_cases C:d k<0
   .rw [Yao C]at q;omega
   .by_cases b:e k=0
    .rw [Yao b,Yaj C,Yaj ZbC,Yaj ZbC];exact ZjX
    .rw [Yaj b]at A ⊢
     by_cases I:e k<0
     .rw [Yao I]at A;omega
     .rw [Yaj C,Yaj I,Yaj ZbC,Yaj ZbC];exact ZjX
theorem Yz{d e:Nat->Int}:∀{R:List (Nat->Int)},0<=It R d->0<=It R e->(0<=It R (CY d e)/\(0<It R d\/0<It R e->0<It R (CY d e)))
 |[],q,A=>Uz 8 0 q A
 |r::R,q,A=>by
  rw[It]at q A;simp only[It];rw[A3O];by_cases B:Ib r d<0
  .rw [Yao B]at q;omega
  .by_cases j:Ib r e<0
   .rw [Yao j]at A;omega
   .rw [Yaj B]at q ⊢
    rw[Yaj j]at A ⊢;rw[Yaj ZbC];by_cases P:0<Ib r d
    .rw [Yao P,Yao ZbC];exact ZjX
    .rw [Yaj P]at q ⊢
     by_cases L:0<Ib r e
     .rw [Yao L,Yao ZbC];exact ZjX
     .rw [Yaj L]at A ⊢
      rw[Yaj ZbC];exact Yz q A
theorem A5O(R:List (Nat->Int))(a b:Nat->Int):IT R a b=-1\/IT R a b=0\/IT R a b=1:=by
 rw[EP];exact Yx _ _
theorem A5P(R:List (Nat->Int))(a b:Nat->Int):IT R b a=-(IT R a b):=by
 rw[EP,EP,<-Yy];exact IS (λi _=>by simp only[MQ];omega) R
theorem A3w:IT vx vi vH=0↔∀i,i<8->vi i=vH i:=by
 constructor
 .intro h i J
  rw[EP]at h;have:=UM h i J;simp only[MQ]at this;omega
 .intro h;exact A85 h vx
theorem A0J(q:0<=IT vx vi vH)(A:0<=IT vx vH uU):0<=IT vx vi uU/\(0<IT vx vi vH\/0<IT vx vH uU->0<IT vx vi uU):=by
 rw[EP]at q A;rw[EP vi uU vx,EP vi vH vx,EP vH uU vx];rw[IS (d:=MQ vi uU) (e:=CY (MQ vi vH) (MQ vH uU)) (λi _=>by simp only[MQ,CY];omega) vx];exact Yz q A
theorem A0K{a b Y H:Nat->Int}(q:∀i,i<8->a i=Y i)(A:∀i,i<8->b i=H i):IT vx a b=IT vx Y H:=by
 rw[EP,EP];exact IS (λi J=>by simp only[MQ,q i J,A i J]) vx
theorem A5Q(R:List (Nat->Int))(a b c:Nat->Int):IT R (CY a c) (CY b c)=IT R a b:=by
 rw[EP,EP];exact IS (λi _=>by simp only[MQ,CY];omega) R
def Eqv(a b:Nat->Int):Prop:=∀i,i<8->a i=b i
theorem Eqv.refl(a:Nat->Int):Eqv a a:=λ_ _=>rfl
theorem Eqv.symm{a b:Nat->Int}(h:Eqv a b):Eqv b a:=λi J=>(h i J).symm
structure Tm where
 c:Rat
 m:Nat->Int
instance:Inhabited Tm:=⟨⟨0,λ_=>0⟩⟩
def lx(a b:Nat->Int):Int:=IT [] a b
theorem A68(a b:Nat->Int):lx a b=-1\/lx a b=0\/lx a b=1:=A5O _ _ _
theorem A69(a b:Nat->Int):lx b a=-(lx a b):=A5P _ _ _
theorem Ri:lx vi vH=0↔Eqv vi vH:=A3w
theorem A6a{a b Y H:Nat->Int}(q:Eqv a Y)(A:Eqv b H):lx a b=lx Y H:=A0K q A
theorem Sx(q:0<lx vi vH)(A:0<lx vH uU):0<lx vi uU:=(A0J (Int.le_of_lt q) (Int.le_of_lt A)).2 (.inl q)
theorem Aao(a b c:Nat->Int):lx (CY a c) (CY b c)=lx a b:=A5Q _ _ _ _
theorem Vj(a b:Nat->Int):CY a b=CY b a:=by funext i;simp only[CY];omega
def Dec(P:List Tm):Prop:=P.Pairwise λs t=>0<lx s.m t.m
def Canon(P:List Tm):Prop:=Dec P/\∀t∈P,t.c≠0
def SameL:List Tm->List Tm->Prop
 |[],[]=>True
 |s::P,t::Q=>s.c=t.c/\Eqv s.m t.m/\SameL P Q
 |_,_=>False
theorem SameL.refl:∀P:List Tm,SameL P P
 |[]=>trivial
 |t::P=>⟨rfl,Eqv.refl _,SameL.refl P⟩
theorem SameL.length:∀{P Q:List Tm},SameL P Q->P.length=Q.length
 |[],[],_=>rfl
 |_::_,_::_,h=>by simp[SameL.length h.2.2]
 |[],_::_,h=>h.elim
 |_::_,[],h=>h.elim
def Jq:List Tm->List Tm->List Tm
 |[],Q=>Q
 |s::P,[]=>s::P
 |s::P,t::Q=>
  if 0<lx s.m t.m then s::Jq P (t::Q)
  else if lx s.m t.m<0 then t::Jq (s::P) Q
  else if s.c+t.c=0 then Jq P Q else⟨s.c+t.c,s.m⟩::Jq P Q
termination_by P Q=>P.length+Q.length
theorem A2z(P:List Tm):Jq P []=P:=by cases P<;>simp[Jq]
theorem Iu:∀(P Q:List Tm) (u:Tm),u∈Jq P Q->(∃s∈P,s.m=u.m)\/∃t∈Q,t.m=u.m
 |[],Q,u,h=>by simp only[Jq]at h;exact .inr ⟨u,h,rfl⟩
 |s::P,[],u,h=>by simp only[Jq]at h;exact .inl ⟨u,h,rfl⟩
 |s::P,t::Q,u,h=>by
  rw[Jq]at h
  have z:((∃x∈P,x.m=u.m)\/∃x∈Q,x.m=u.m)->(∃x∈s::P,x.m=u.m)\/∃x∈t::Q,x.m=u.m:=λh=>by
   rcases h with⟨x,C,e⟩ | ⟨x,C,e⟩
   .exact .inl ⟨x,by simp[C],e⟩
   .exact .inr ⟨x,by simp[C],e⟩
  split at h
  .rcases YaL.1 h with rfl | h
   .exact .inl ⟨u,by simp,rfl⟩
   .rcases Iu P (t::Q) u h with⟨x,C,e⟩ | h
    .exact .inl ⟨x,by simp[C],e⟩
    .exact .inr h
  .split at h
   .rcases YaL.1 h with rfl | h
    .exact .inr ⟨u,by simp,rfl⟩
    .rcases Iu (s::P) Q u h with h | ⟨x,C,e⟩
     .exact .inl h
     .exact .inr ⟨x,by simp[C],e⟩
   .split at h
    .exact z (Iu P Q u h)
    .rcases YaL.1 h with rfl | h
     .exact .inl ⟨s,by simp,rfl⟩
     .exact z (Iu P Q u h)
termination_by P Q=>P.length+Q.length
theorem Kc:∀{P Q:List Tm},Canon P->Canon Q->Canon (Jq P Q)
 |[],Q,_,h=>by simp only[Jq];exact h
 |s::P,[],h,_=>by simp only[Jq];exact h
 |s::P,t::Q,B,k=>by
  have J:=YdA.1 B.1;have I:=YdA.1 k.1;have H:Canon P:=⟨J.2,λu E=>B.2 u (by simp[E])⟩;have M:Canon Q:=⟨I.2,λu E=>k.2 u (by simp[E])⟩
  have o:∀{x:Tm} {L:List Tm},x.c≠0->Canon L->(∀u∈L,0<lx x.m u.m)->Canon (x::L):=λG F C=>⟨YdA.2 ⟨C,F.1⟩,λu E=>by
   rcases YaL.1 E with rfl | E
   .exact G
   .exact F.2 u E⟩
  rw[Jq];split
  .rename_i q
   refine o (B.2 s ZbR) (Kc H k) λu E=>?_;rcases Iu P (t::Q) u E with⟨x,C,e⟩ | ⟨x,C,e⟩
   .rw [<-e];exact J.1 x C
   .rw [<-e]
    rcases YaL.1 C with rfl | C
    .exact q
    .exact Sx q (I.1 x C)
  .split
   .rename_i q A
    have R:0<lx t.m s.m:=by rw[A69];omega
    refine o (k.2 t ZbR) (Kc B M) λu E=>?_;rcases Iu (s::P) Q u E with⟨x,C,e⟩ | ⟨x,C,e⟩
    .rw [<-e]
     rcases YaL.1 C with rfl | C
     .exact R
     .exact Sx R (J.1 x C)
    .rw [<-e];exact I.1 x C
   .rename_i q A
    have b:Eqv s.m t.m:=Ri.1 (by rcases A68 s.m t.m with h | h | h<;>omega);split
    .exact Kc H M
    .rename_i K
     refine o K (Kc H M) λu E=>?_;rcases Iu P Q u E with⟨x,C,e⟩ | ⟨x,C,e⟩
     .rw [<-e];exact J.1 x C
     .rw [<-e,A6a b (Eqv.refl _)];exact I.1 x C
termination_by P Q=>P.length+Q.length
theorem KH:∀P Q:List Tm,(Jq P Q).length<=P.length+Q.length
 |[],Q=>by simp only[Jq];simp
 |s::P,[]=>by simp only[Jq];simp
 |s::P,t::Q=>by
  rw[Jq];have q:=KH P (t::Q);have A:=KH (s::P) Q;have K:=KH P Q;simp only[Yat]at q A K ⊢;split
  .exact Zjb
  .split
   .exact Zjb
   .split
    .omega
    .exact Zjb
termination_by P Q=>P.length+Q.length
theorem A0F{m i:Nat}:BV m i=if m.testBit i then 1 else 0:=by
 unfold BV;rw[Nat.testBit,Yey];have A:m/2^i%2=0\/m/2^i%2=1:=by omega
 rcases A with h | h
 .rw [h];simp[h]
 .rw [h];simp[h]
theorem IN:∀k,(Gs k).length=k
 |0=>rfl
 |k+1=>by rw[Gs,Yat,IN k]
theorem IP:revRows.length=8:=by rw[revRows,Yat,IN]
