/- Part 6 of the proof of claimAnswers_holds. No condition. -/
import Derived.BigQuiet
import Derived.ChangeAlike
import Derived.ChangeKeysEq
import Derived.Deep.Cut
import Derived.Deep.CutBlock
import Derived.Deep.DeepCutAuto
import Derived.Deep.LoopGhost
import Derived.Deep.QuietTactic
import Derived.Deep.RegionHeld3
import Derived.Laws.AppendOwnNone
import Derived.RegionTactic
import Derived.WalkKit
import Derived.WalkLawsBesides
import Derived.WalkSpells
import Derived.Test.YtcikkglcoeedlaaGreatCa1
set_option linter.unusedSimpArgs false
set_option linter.unusedVariables false
set_option maxRecDepth 100000
set_option maxHeartbeats 800000
namespace Go.Proofs.YtcikkglcoeedlaaGreat
open Go.RowKit
variable{i j us ux:Int}{o:IntKind}{vx:List (Nat->Int)}{n b:Nat}{vd vw uJ:Nat->Int}{t:TypeId}{w p:World}
def c8(a:Nat->Int):Array Value:=#[.int .i64 (a 0),.int .i64 (a 1),.int .i64 (a 2),.int .i64 (a 3),.int .i64 (a 4),.int .i64 (a 5),.int .i64 (a 6),.int .i64 (a 7)]
theorem A2f(a:Nat->Int)(k:Nat)(h:k<8):(c8 a)[k]? = some (.int .i64 (a k)):=by
 match k,h with
 |0,_=>rfl
 |1,_=>rfl
 |2,_=>rfl
 |3,_=>rfl
 |4,_=>rfl
 |5,_=>rfl
 |6,_=>rfl
 |7,_=>rfl
theorem lt8(h:n<8):n=0\/n=1\/n=2\/n=3\/n=4\/n=5\/n=6\/n=7:=by omega
theorem Fz(a:Nat->Int)(k:Nat)(h:k<8)(W:World):(Instr.index 112 (.agg #[.int .i64 (a 0),.int .i64 (a 1),.int .i64 (a 2),.int .i64 (a 3),.int .i64 (a 4),.int .i64 (a 5),.int .i64 (a 6),.int .i64 (a 7)]) (.int .i64 (k:Int))).run Tryz.prog W=.ok (.int .i64 (a k)) W:=by
 rcases lt8 h with rfl | rfl | rfl | rfl | rfl | rfl | rfl | rfl<;>kernel_rfl
theorem YI(a:Nat->Int)(k:Nat)(h:k<8)(W:World):(part 3 (c8 a) (k*Tryz.prog.cellsOf 3)).run Tryz.prog W=.ok (.int .i64 (a k)) W:=by
 rcases lt8 h with rfl | rfl | rfl | rfl | rfl | rfl | rfl | rfl<;>kernel_rfl
def JK(a b:Nat->Int):Bool:=(List.range 8).all λi=>a i==b i
theorem Gv:JK vd vw=true↔∀i,i<8->vd i=vw i:=by simp[JK]
theorem IK(d:Nat)(a b:Nat->Int)(W:World):∀f:List Nat,(∀i∈f,i<8)->(Op.eqItems (d+1) 3 (Tryz.prog.cellsOf 3) (c8 a) (c8 b) f).run Tryz.prog W=.ok (f.all λi=>a i==b i) W
 |[],_=>by simp[Op.eqItems]
 |i::f,h=>by
  have q:=IK d a b W f λj e=>h j (by simp[e]);have M:=h i ZbV;simp only[Op.eqItems,Sem.run_bind,YI a i M,YI b i M,Result.andThen_ok,run_equalIn_int W d 3 .i64 .i64 _ _ (show Tryz.prog.underlying 3=some (.int .i64)by kernel_rfl)];cases I:a i==b i
  .simp [I]
  .simp only[Bool.not_true,Bool.false_eq_true,if_false,q,List.all_cons,I,Bool.true_and]
theorem HK(a b:Nat->Int)(W:World):(Op.equalIn 10000 112 (.agg #[.int .i64 (a 0),.int .i64 (a 1),.int .i64 (a 2),.int .i64 (a 3),.int .i64 (a 4),.int .i64 (a 5),.int .i64 (a 6),.int .i64 (a 7)]) (.agg #[.int .i64 (b 0),.int .i64 (b 1),.int .i64 (b 2),.int .i64 (b 3),.int .i64 (b 4),.int .i64 (b 5),.int .i64 (b 6),.int .i64 (b 7)])).run Tryz.prog W=.ok (JK a b) W:=by
 obtain⟨i,M⟩:∃i,Tryz.prog.info? 3=some i:=Option.isSome_iff_exists.1 ZbM;have:=run_equalIn_array (P:=Tryz.prog) W 9999 (t:=112) (e:=3) (n:=8) (c8 a) (c8 b) ZbM M;exact ZhN
theorem A5L(a:Nat->Int)(k:Nat)(v:Int)(h:k<8):(c8 a).setIfInBounds k (.int .i64 v)=c8 (λi=>if i=k then v else a i):=by
 match k,h with
 |0,_=>rfl
 |1,_=>rfl
 |2,_=>rfl
 |3,_=>rfl
 |4,_=>rfl
 |5,_=>rfl
 |6,_=>rfl
 |7,_=>rfl
theorem Blk.at8{a:Nat->Int}(h:Blk w n t (c8 a))(C:b<8):w.cell? ⟨n,b,none⟩=some (.int .i64 (a b)):=by
 rw[h.cell,A2f a b C]
theorem Blk.set8(h:Blk w n t (c8 vd))(C:b<8)(v:Int):Blk (w.setCell ⟨n,b,none⟩ (.int .i64 v)) n t (c8 (λi=>if i=b then v else vd i)):=by
 rw[<-A5L vd b v C];exact h.set b _
def DC(a:Nat->Int):Nat->Int
 |0=>0
 |k+1=>DC a k+a k
def In8(a:Nat->Int)(r M:Int):Prop:=∀i,i<8->r<=a i/\a i<=M
theorem In8.mono{a:Nat->Int}(h:In8 a i j)(B:us<=i)(C:j<=ux):In8 a us ux:=λA j=>by have:=h A j;omega
theorem Jo{a:Nat->Int}{r M:Int}(h:In8 a r M):∀k,k<=8->r*k<=DC a k/\DC a k<=M*k
 |0,_=>by simp[DC]
 |k+1,C=>by
  have q:=Jo h k ZbK;have:=h k ZbK;simp only[DC,Int.natCast_add,Int.mul_add];omega
theorem XW(a:Nat->Int)(w:World)(h:In8 a (-1000000) 1000000) :
  Calls Tryz.prog 289 #[.agg #[.int .i64 (a 0),.int .i64 (a 1),.int .i64 (a 2),.int .i64 (a 3),.int .i64 (a 4),.int .i64 (a 5),.int .i64 (a 6),.int .i64 (a 7)]] w λe N=>e=.returned (.int .i64 (DC a 8))/\Ext w N:=by
 replace h:=Ae h;go_enter Tryz.func289,Tryz.ntmps289;go_wp2;go_loopw [3,7] (λs i wr=>∃k:Nat,k<=8/\i=.int .i64 k/\s=.int .i64 (DC a k)/\Hid (Ext w wr)) (λ_ i _=>8-(intOf i).toNat)
 case atStart=>exact Ziv
 case round=>
  obtain⟨k,C,rfl,rfl,S⟩:=hrel;by_cases Q:k<8
  .have E:=λW=>Fz a k Q W
   have F:=Jo h.out k C;have p:=h.out k Q;have f:DC a (k+1)=DC a k+a k:=rfl;generalize DC a k=s at *;generalize a k=x at *;replace f:=Ae f;go_wp2;exact⟨⟨k+1,Q,by simp,by rw[f.out],S⟩,by simp[intOf];omega⟩
  .exact Zax
def HP(a b:Nat->Int):Nat->Nat->Int
 |_,0=>0
 |k,n+1=>if a k=b k then HP a b (k+1) n else if a k<b k then -1 else 1
def GT(a b:Nat->Int):Int:=HP a b 0 8
theorem PL{a b:Nat->Int}:∀(n k:Nat),(∀i,k<=i->i<k+n->a i=b i)->HP a b k n=0
 |0,_,_=>rfl
 |n+1,k,h=>by
  rw[HP,if_pos (h k ZbK ZbK)];exact PL n (k+1) λi A B=>h i ZbK ZbK
theorem A1M(a b:Nat->Int)(w:World) :
  Calls Tryz.prog 297 #[.agg #[.int .i64 (a 0),.int .i64 (a 1),.int .i64 (a 2),.int .i64 (a 3),.int .i64 (a 4),.int .i64 (a 5),.int .i64 (a 6),.int .i64 (a 7)],.agg #[.int .i64 (b 0),.int .i64 (b 1),.int .i64 (b 2),.int .i64 (b 3),.int .i64 (b 4),.int .i64 (b 5),.int .i64 (b 6),.int .i64 (b 7)]] w λe N=>e=.returned (.int .i64 (GT a b))/\Ext w N:=by
 have F:=λW=>HK a b W
 cases X:JK a b with
 |true=>
  rw[X]at F;go_enter Tryz.func297,Tryz.ntmps297;go_wp2;go_ret;refine⟨?_,((Ext.refl _).alloc _).alloc _⟩;rw[GT,PL 8 0 λi _ h=>Gv.1 X i ZbK];rfl
 |false=>
  rw[X]at F;have z:¬∀i,i<8->a i=b i:=λh=>by rw[Gv.2 h]at X;cases X
  clear X;replace z:=Ae z;have J:Hid (Blk ((w.alloc (.cells #[.int .i64 (a 0),.int .i64 (a 1),.int .i64 (a 2),.int .i64 (a 3),.int .i64 (a 4),.int .i64 (a 5),.int .i64 (a 6),.int .i64 (a 7)] 112)).alloc (.cells #[.int .i64 (b 0),.int .i64 (b 1),.int .i64 (b 2),.int .i64 (b 3),.int .i64 (b 4),.int .i64 (b 5),.int .i64 (b 6),.int .i64 (b 7)] 112)) w.heap.size 112 (c8 a)):=(Blk.new _ _ _).alloc _;have v:Hid (Blk ((w.alloc (.cells #[.int .i64 (a 0),.int .i64 (a 1),.int .i64 (a 2),.int .i64 (a 3),.int .i64 (a 4),.int .i64 (a 5),.int .i64 (a 6),.int .i64 (a 7)] 112)).alloc (.cells #[.int .i64 (b 0),.int .i64 (b 1),.int .i64 (b 2),.int .i64 (b 3),.int .i64 (b 4),.int .i64 (b 5),.int .i64 (b 6),.int .i64 (b 7)] 112)) (w.heap.size+1) 112 (c8 b)):=Eb _ _ ZbV;have S:Hid (Ext w ((w.alloc (.cells #[.int .i64 (a 0),.int .i64 (a 1),.int .i64 (a 2),.int .i64 (a 3),.int .i64 (a 4),.int .i64 (a 5),.int .i64 (a 6),.int .i64 (a 7)] 112)).alloc (.cells #[.int .i64 (b 0),.int .i64 (b 1),.int .i64 (b 2),.int .i64 (b 3),.int .i64 (b 4),.int .i64 (b 5),.int .i64 (b 6),.int .i64 (b 7)] 112))):=((Ext.refl _).alloc _).alloc _;go_enter Tryz.func297,Tryz.ntmps297;go_wp2;generalize ((w.alloc (.cells #[.int .i64 (a 0),.int .i64 (a 1),.int .i64 (a 2),.int .i64 (a 3),.int .i64 (a 4),.int .i64 (a 5),.int .i64 (a 6),.int .i64 (a 7)] 112)).alloc (.cells #[.int .i64 (b 0),.int .i64 (b 1),.int .i64 (b 2),.int .i64 (b 3),.int .i64 (b 4),.int .i64 (b 5),.int .i64 (b 6),.int .i64 (b 7)] 112))=G at *;go_loopw [5] (λi wr=>∃k:Nat,k<8/\i=.int .i64 k/\Hid ((¬∀i,k<=i->i<8->a i=b i)/\GT a b=HP a b k (8-k)/\Blk wr w.heap.size 112 (c8 a)/\Blk wr (w.heap.size+1) 112 (c8 b)/\Ext w wr)) (λi _=>8-(intOf i).toNat)
  case atStart=>exact⟨0,by omega,rfl,λh=>z.out λi M=>h i ZbK M,rfl,J.out,v.out,S.out⟩
  case round=>
   obtain⟨k,C,rfl,T⟩:=hrel;have R:=T.out.2.2.1.at8 C;have Y:=T.out.2.2.2.1.at8 C
   have f:Hid (HP a b k (8-k)=if a k=b k then HP a b (k+1) (8-(k+1))else if a k<b k then -1 else 1):=by
    rw[show 8-k=8-(k+1)+1 by omega];rfl
   have E:Hid (a k=b k->k+1<8/\¬∀i,k+1<=i->i<8->a i=b i):=λh=>by
    have A:¬∀i,k+1<=i->i<8->a i=b i:=λB=>T.out.1 λi L V=>by
     by_cases e:i=k
     .rw [e];exact h
     .exact B i ZbK V
    refine⟨?_,A⟩;by_cases K:k+1<8
    .exact K
    .exact absurd (λi L V=>by omega) A
   generalize a k=x at *;generalize b k=y at *;by_cases O:x=y
   .have I:=E.out O
    have d:=f.out;rw[if_pos O]at d;replace d:=Ae (T.out.2.1.trans d);have s:=I.1;replace I:=Ae I.2;go_wp2;go_quiet (fail);go_wp2;exact⟨⟨k+1,s,by simp,I.out,d.out,T.out.2.2.1,T.out.2.2.2.1,T.out.2.2.2.2.drewN _⟩,by simp[intOf];omega⟩
   .have d:=f.out
    rw[if_neg O]at d;replace d:=Ae (T.out.2.1.trans d);by_cases Q:x<y
    .rw [if_pos Q]at d
     go_wp2;go_quiet (fail);go_wp2;go_quiet (fail);go_wp2;exact Zhr
    .rw [if_neg Q]at d
     go_wp2;go_quiet (fail);go_wp2;go_quiet (fail);go_wp2;exact Zhr
def Nv(R:List (Nat->Int))(k:Nat):Nat->Int:=R.getD k (λ_=>0)
def RowsAt(f:IntKind)(t:TypeId)(w:World)(v:Value)(R:List (Nat->Int)):Prop:=
 ∃(A:Option Addr) (c:Nat),v=.slice A R.length c/\R.length<=c/\c<=9223372036854775807 /\
  (0<R.length->∃(b o:Nat) (a:Array Value) (K:Nat×Nat),A=some ⟨b,o,none⟩/\w.heap[b]? = some (.cells a t K)/\∀k j,k<R.length->j<8->a[o+k*8+j]? = some (.int f (Nv R k j)))
theorem RowsAt.open_{v:Value}(h:RowsAt o t w v vx):∃(A:Option Addr) (c:Nat),v=.slice A vx.length c/\vx.length<=c/\c<=9223372036854775807 /\
  (0<vx.length->∃(b C:Nat),A=some ⟨b,C,none⟩/\b<w.heap.size/\∀k j,k<vx.length->j<8->w.cell? ⟨b,C+k*8+j,none⟩=some (.int o (Nv vx k j))):=by
 obtain⟨A,c,B,E,L,V⟩:=h;refine⟨A,c,B,E,L,λG=>?_⟩;obtain⟨b,C,a,K,m,z,d⟩:=V G;exact⟨b,C,m,Bm z,λk j F e=>(CL z).trans (d k j F e)⟩
def NH(r a b:Nat->Int)(k:Nat):Int:=DC (λi=>r i*(a i-b i)) k
def HV:List (Nat->Int)->(Nat->Int)->(Nat->Int)->Int
 |[],_,_=>0
 |r::R,a,b=>if NH r a b 8<0 then -1 else if 0<NH r a b 8 then 1 else HV R a b
def Ho(R:List (Nat->Int))(a b:Nat->Int):Int:=if HV R a b=0 then GT a b else HV R a b
theorem OX{a:Nat->Int}:∀{k:Nat},(∀i,i<k->a i=0)->DC a k=0
 |0,_=>rfl
 |k+1,h=>by rw[DC,OX λi M=>h i ZbK,h k ZbK];rfl
theorem Qe{a b:Nat->Int}(h:∀i,i<8->a i=b i):∀R,HV R a b=0
 |[]=>rfl
 |r::R=>by
  have:NH r a b 8=0:=OX λi M=>by rw[h i M,Int.sub_self,Int.mul_zero]
  rw[HV,this,if_neg ZbK,if_neg ZbK,Qe h R]
theorem A3y(h:∀i,i<8->vd i=vw i)(R:List (Nat->Int)):Ho R vd vw=0:=by
 rw[Ho,Qe h,if_pos rfl,GT,PL 8 0 λi _ M=>h i ZbK]
theorem LP{a b:Nat->Int}(h:∀i,i<8->a i=b i):c8 a=c8 b:=by
 simp only[c8,h 0 ZbK,h 1 ZbK,h 2 ZbK,h 3 ZbK,h 4 ZbK,h 5 ZbK,h 6 ZbK,h 7 ZbK]
theorem Blk.set8'{a Q:Nat->Int}(h:Blk w n t (c8 a))(C:b<8)(v:Int)(A:Q b=v)(B:∀i,i<8->i≠b->Q i=a i):Blk (w.setCell ⟨n,b,none⟩ (.int .i64 v)) n t (c8 Q):=by
 rw[show c8 Q=c8 (λi=>if i=b then v else a i)from LP λi M=>by
  by_cases e:i=b
  .rw [if_pos e,e,A]
  .rw [if_neg e,B i M e]]
 exact h.set8 C v
def QU(a:Nat->Int)(k:Nat)(i:Nat):Int:=if i<k then a i else 0
theorem IH{a:Nat->Int}(h:b<n):QU a n b=a b:=if_pos h
theorem Od(h:¬b<n):QU vd n b=0:=if_neg h
theorem Blk.up8(h:Blk w n t (c8 (QU vd b)))(C:b<8){v:Int}(q:v=vd b):Blk (w.setCell ⟨n,b,none⟩ (.int .i64 v)) n t (c8 (QU vd (b+1))):=by
 refine h.set8' C v (by rw[IH ZbK,q]) λi M z=>?_;by_cases A:i<b
 .rw [IH A,IH ZbK]
 .rw [Od A,Od ZbK]
theorem Blk.full8{a:Nat->Int}(h:Blk w n t (c8 (QU a 8))):Blk w n t (c8 a):=by
 rw[<-LP (a:=QU a 8) λi M=>IH M];exact h
def put8(w:World)(b:Nat)(a:Nat->Int):World:=(((((((w.setCell ⟨b,0,none⟩ (.int .i64 (a 0))).setCell ⟨b,1,none⟩ (.int .i64 (a 1))).setCell ⟨b,2,none⟩ (.int .i64 (a 2))).setCell ⟨b,3,none⟩ (.int .i64 (a 3))).setCell ⟨b,4,none⟩ (.int .i64 (a 4))).setCell ⟨b,5,none⟩ (.int .i64 (a 5))).setCell ⟨b,6,none⟩ (.int .i64 (a 6))).setCell ⟨b,7,none⟩ (.int .i64 (a 7))
theorem Ext.put8(h:Ext w p){b:Nat}(F:w.heap.size<=b)(a:Nat->Int):Ext w (put8 p b a):=
 (((((((h.set (p:=⟨b,0,none⟩) F _).set (p:=⟨b,1,none⟩) F _).set (p:=⟨b,2,none⟩) F _).set (p:=⟨b,3,none⟩) F _).set (p:=⟨b,4,none⟩) F _).set (p:=⟨b,5,none⟩) F _).set (p:=⟨b,6,none⟩) F _).set (p:=⟨b,7,none⟩) F _
def BM(m:Nat)(i:Nat):Int:=(m >>> i%2:Nat)
def rl(R:List (Nat->Int)):List Value:=R.flatMap λa=>(c8 a).toList
theorem SJ(a:Nat->Int)(R:List (Nat->Int)):rl (a::R)=(c8 a).toList++rl R:=rfl
theorem ZE(R S:List (Nat->Int)):rl (R++S)=rl R++rl S:=by simp[rl]
theorem Hc:∀R:List (Nat->Int),(rl R).length=R.length*8
 |[]=>rfl
 |a::R=>by rw[SJ,List.length_append,Hc R];simp[c8];omega
theorem WD(a:Nat->Int)(R:List (Nat->Int))(k:Nat):Nv (a::R) (k+1)=Nv R k:=by simp[Nv]
theorem WE:∀(R:List (Nat->Int)) (k j:Nat),k<R.length->j<8->(rl R)[k*8+j]? = some (.int .i64 (Nv R k j))
 |[],k,j,h,_=>by simp at h
 |a::R,0,j,_,e=>by
  rw[SJ,List.getElem?_append_left (by simp[c8];omega),Nat.zero_mul,Nat.zero_add,Array.getElem?_toList,A2f a j e];rfl
 |a::R,k+1,j,C,e=>by
  rw[SJ,List.getElem?_append_right (by simp[c8];omega),WD,<-WE R k j ZcF e];congr 1;simp[c8];omega
theorem A53{u:Value}(h:u∈rl vx):u.oneCell'=true:=by
 simp only[rl,List.mem_flatMap]at h;obtain⟨a,_,L⟩:=h;simp[c8]at L;rcases L with rfl | rfl | rfl | rfl | rfl | rfl | rfl | rfl<;>rfl
def OwnRows(t:TypeId)(base:Nat)(w:World)(v:Value)(R:List (Nat->Int)):Prop:=w.ownsRow base t 8 v R.length (rl R)
theorem OwnRows.rows{base:Nat}{v:Value}{R:List (Nat->Int)}(h:OwnRows t base w v R):RowsAt .i64 t w v R:=by
 obtain⟨A,B⟩:=h;rcases B with⟨rfl,E⟩ | ⟨g,cap,cur,rfl,_,hg,hc,hm,hsz,ht⟩
 .exact ⟨none,0,by rw[E],by omega,by omega,λG=>by omega⟩
 .refine ⟨_, cap, rfl, hc, by simpa [maxLen] using hm, λ_=>⟨g, 0, cur, (0, 0), rfl, hg, λk j C e=>?_⟩⟩
  have c:(cur.toList.take (R.length*8))[k*8+j]? = (rl R)[k*8+j]?:=by rw[ht]
  rw[List.getElem?_take,if_pos ZbK,WE R k j C e]at c;rw[Nat.zero_add];simpa using c
theorem OwnRows.form{v:Value}(h:OwnRows t n w v vx):∃A c,v=.slice A vx.length c:=by
 obtain⟨_,B⟩:=h;rcases B with⟨rfl,C⟩ | ⟨g,cap,cur,rfl,_⟩
 .exact ⟨none,0,by rw[C]⟩
 .exact ⟨_,_,rfl⟩
theorem OwnRows.ext{base:Nat}{v:Value}{R:List (Nat->Int)}(h:OwnRows t base w v R)(X:Ext w p):OwnRows t base p v R:=by
 obtain⟨A,B⟩:=h;refine⟨A,?_⟩;rcases B with B | ⟨g,cap,cur,h3,h4,hg,h5⟩
 .exact .inl B
 .exact .inr ⟨g,cap,cur,h3,h4,(X.block (Bm hg)).trans hg,h5⟩
theorem OwnRows.blk{base g:Nat}{R:List (Nat->Int)}{c:Nat}(B:base<=g)(F:Blk w g t (rl R).toArray)(I:c=R.length)(A:R.length<=1000000000000):OwnRows t base w (.slice (some ⟨g,0,none⟩) R.length c) R:=by
 subst I;exact⟨Hc R,.inr ⟨g,_,_,rfl,B,F,Nat.le_refl _,by simp only[maxLen];omega,by simp[Hc],by rw[List.toList_toArray,List.take_of_length_le (by rw[Hc];omega)]⟩⟩
theorem OwnRows.base_le{base:Nat}{v:Value}{R:List (Nat->Int)}(h:OwnRows t base w v R):∀k,v.ownBlock=some k->base<=k:=by
 intro k C;obtain⟨A,B⟩:=h;rcases B with⟨rfl,_⟩ | ⟨g,cap,cur,rfl,h4,hg,h5⟩
 .cases C
 .cases C;exact h4
def XZ(t:TypeId)(B base:Nat)(w:World)(v x:Value)(R S:List (Nat->Int)):Prop:=
 ∃A c N,(Builtin.append_ #[B,B] B #[v,x]).run Tryz.prog w=.ok (.slice A (R.length+S.length) c) N/\OwnRows t base N (.slice A (R.length+S.length) c) (R++S)/\w.grownBy N v.ownBlock
theorem LR{base:Nat}{v x:Value}{R S:List (Nat->Int)}(h:OwnRows 36 base w v R)(E:RowsAt .i64 36 w x S)(g:0<S.length)(B:R.length+S.length<=1000000000000)(F:base<=w.heap.size):XZ 36 30 base w v x R S:=by
 obtain⟨i,M,V,Y,a⟩:=info_parts (show(Tryz.prog.info? 36).map (λi=>(i.zero,i.size,i.bytes))=some (some (.agg (c8 λ_=>0)),8,64)by kernel_rfl);obtain⟨A,c,rfl,I,t,X⟩:=E.open_;obtain⟨b,o,rfl,Z,O⟩:=X g
 have d:∀(q:Nat) (u:Value),(rl S)[q]? = some u->w.cell? ((⟨b,o,none⟩:Addr).add q)=some u:=by
  intro q u L;have G:q<S.length*8:=by rw[<-Hc];exact(List.getElem?_eq_some_iff.1 L).1
  have e:q=q/8*8+q%8:=by omega
  have W:=WE S (q/8) (q%8) ZbK ZbK;rw[<-e,L]at W;have C:o+q=o+q/8*8+q%8:=by omega
  rw[W,Xf,C];exact O (q/8) (q%8) ZbK ZbK
 obtain ⟨K, N, k, T, J, _⟩ := run_append_own (P := Tryz.prog) w base 30 30 36 i _ 8 64 Tryz.underlying30 M V Y a rfl ZbK
  v R.length (rl R) h ⟨b,o,none⟩ S.length c (rl S) (Hc S) d (λu L=>A53 L) Zev ZbK F
 have Q:OwnRows 36 base N K (R++S):=by
  unfold OwnRows;rw[List.length_append,ZE];exact T
 obtain⟨A,f,rfl⟩:=Q.form;rw[List.length_append]at k Q;exact⟨A,f,N,k,Q,J⟩
def LX(R:List (Nat->Int))(w:World)(e:Ending)(N:World):Prop:=
 ∃(A:Option Addr) (c:Nat),e=.returned (.slice A R.length c)/\OwnRows 36 w.heap.size N (.slice A R.length c) R/\Ext w N
theorem Ext.grown'{a w N:World}{row:Option Nat}(h:Ext a w)(I:w.grownBy N row)(b:∀k,row=some k->a.heap.size<=k):Ext a N:=Below.grown h I h.size b
def DM(k:Nat)(i:Nat):Int:=if i=k then -1 else 0
def GM:Nat->List (Nat->Int)
 |0=>[]
 |k+1=>DM (k+1)::GM k
def revRows:List (Nat->Int):=BM 255::GM 7
theorem NA(a:Nat->Int)(w:World)(h:In8 a 0 65535) :
  Calls Tryz.prog 298 #[.agg #[.int .i64 (a 0),.int .i64 (a 1),.int .i64 (a 2),.int .i64 (a 3),.int .i64 (a 4),.int .i64 (a 5),.int .i64 (a 6),.int .i64 (a 7)]] w λe N=>e=.returned (.bool true)/\Ext w N:=by
 replace h:=Ae h;go_enter Tryz.func298,Tryz.ntmps298;go_wp2;go_loopw [6] (λi wr=>∃k:Nat,k<=8/\i=.int .i64 k/\Hid (Ext w wr)) (λi _=>8-(intOf i).toNat)
 case atStart=>exact⟨0,by omega,rfl,(Ext.refl _).alloc _⟩
 case round=>
  obtain⟨k,C,rfl,S⟩:=hrel;by_cases Q:k<8
  .have E:=λW=>Fz a k Q W
   have p:=h.out k Q;generalize a k=x at *;have A:decide (x<0)=false:=Zhz
   have B:decide (65535<x)=false:=Zhz
   go_wp2;exact⟨⟨k+1,Q,by simp,S⟩,by simp[intOf];omega⟩
  .exact Zax
theorem SY(a:Nat->Int)(w:World)(h:¬In8 a 0 65535) :
  Calls Tryz.prog 298 #[.agg #[.int .i64 (a 0),.int .i64 (a 1),.int .i64 (a 2),.int .i64 (a 3),.int .i64 (a 4),.int .i64 (a 5),.int .i64 (a 6),.int .i64 (a 7)]] w λe N=>e=.returned (.bool false)/\Ext w N:=by
 replace h:=Ae h;go_enter Tryz.func298,Tryz.ntmps298;go_wp2;go_loopw [6] (λi wr=>∃k:Nat,k<=8/\i=.int .i64 k/\Hid (Ext w wr/\∀i,i<k->0<=a i/\a i<=65535)) (λi _=>8-(intOf i).toNat)
 case atStart=>exact⟨0,by omega,rfl,(Ext.refl _).alloc _,λi M=>by omega⟩
 case round=>
  obtain⟨k,C,rfl,S⟩:=hrel;by_cases Q:k<8
  .have E:=λW=>Fz a k Q W
   have f:Hid (0<=a k/\a k<=65535->∀i,i<k+1->0<=a i/\a i<=65535):=λh i M=>by
    by_cases e:i=k
    .rw [e];exact h
    .exact S.out.2 i ZbK
   generalize a k=x at *;by_cases A:x<0
   .have F:decide (x<0)=true:=by simpa using A
    go_wp2;go_ret;exact⟨rfl,S.out.1⟩
   .have F:decide (x<0)=false:=by simpa using A
    by_cases B:65535<x
    .have G:decide (65535<x)=true:=Zih
     go_wp2;go_ret;exact⟨rfl,S.out.1⟩
    .have G:decide (65535<x)=false:=Zih
     go_wp2;exact⟨⟨k+1,Q,by simp,S.out.1,f.out ⟨by omega,by omega⟩⟩,by simp[intOf];omega⟩
  .obtain rfl:k=8:=by omega
   exact absurd S.out.2 h.out
def NK(a b:Nat->Int)(k i:Nat):Int:=if i<k then a i+b i else a i
def Cy(a b:Nat->Int)(i:Nat):Int:=a i+b i
theorem ZY(a b:Nat->Int)(w:World)(s:In8 a 0 65535)(F:In8 b 0 65535)(h:In8 (Cy a b) 0 65535) :
  Calls Tryz.prog 323 #[.agg #[.int .i64 (a 0),.int .i64 (a 1),.int .i64 (a 2),.int .i64 (a 3),.int .i64 (a 4),.int .i64 (a 5),.int .i64 (a 6),.int .i64 (a 7)],.agg #[.int .i64 (b 0),.int .i64 (b 1),.int .i64 (b 2),.int .i64 (b 3),.int .i64 (b 4),.int .i64 (b 5),.int .i64 (b 6),.int .i64 (b 7)]] w λe N=>e=.returned (.tuple #[.agg #[.int .i64 (Cy a b 0),.int .i64 (Cy a b 1),.int .i64 (Cy a b 2),.int .i64 (Cy a b 3),.int .i64 (Cy a b 4),.int .i64 (Cy a b 5),.int .i64 (Cy a b 6),.int .i64 (Cy a b 7)],.int .i64 0])/\Ext w N:=by
 replace h:=Ae h;replace s:=Ae s;replace F:=Ae F;go_enter Tryz.func323,Tryz.ntmps323;go_wp2;go_loopw [7] (λi wr=>∃k:Nat,k<=8/\i=.int .i64 k/\Hid (Blk wr w.heap.size 112 (c8 (NK a b k))/\Blk wr (w.heap.size+1) 112 (c8 b)/\Blk wr (w.heap.size+2) 112 (c8 (λ_=>0))/\Ext w wr)) (λi _=>8-(intOf i).toNat)
 case atStart=>exact⟨0,by omega,rfl,((Blk.new _ _ _).alloc _).alloc _,(Eb _ _ ZbV).alloc _,Eb _ _ ZbV,(((Ext.refl _).alloc _).alloc _).alloc _⟩
 case round=>
  obtain⟨k,C,rfl,J⟩:=hrel;by_cases Q:k<8
  .have E:wr.cell? ⟨w.heap.size,k,none⟩=some (.int .i64 (a k)):=by
    rw[J.out.1.at8 Q];simp[NK]
   have G:=J.out.1.frozen k;have O:=J.out.2.1.at8 Q;have V:=s.out k Q;have n:=F.out k Q
   have B:Hid (Blk (wr.setCell ⟨w.heap.size,k,none⟩ (.int .i64 (a k+b k))) w.heap.size 112 (c8 (NK a b (k+1)))):=by
    refine J.out.1.set8' Q _ (by simp[NK]) λi M z=>?_;by_cases A:i<k
    .simp [NK,A,show i<k+1 by omega]
    .simp [NK,A,show¬i<k+1 by omega]
   generalize a k=x at *;generalize b k=y at *;go_wp2;go_region;go_wp2;exact⟨⟨k+1,Q,by simp,B.out.drew,(J.out.2.1.far ZcD _).drew,(J.out.2.2.1.far ZcD _).drew,(J.out.2.2.2.set (p:=⟨w.heap.size,k,none⟩) (Nat.le_refl _) _).drew⟩,by simp[intOf];omega⟩
  .obtain rfl:k=8:=by omega
   have p:Blk wr w.heap.size 112 (c8 (Cy a b)):=by
    rw[<-LP (a:=NK a b 8) λi M=>by simp[NK,Cy,M]];exact J.out.1
   have q:(wr).cell? ⟨w.heap.size,0,none⟩=some (.int .i64 (Cy a b 0)):=(p).cell 0;have L:(wr).cell? ⟨w.heap.size,1,none⟩=some (.int .i64 (Cy a b 1)):=(p).cell 1;have l:(wr).cell? ⟨w.heap.size,2,none⟩=some (.int .i64 (Cy a b 2)):=(p).cell 2;have d:(wr).cell? ⟨w.heap.size,3,none⟩=some (.int .i64 (Cy a b 3)):=(p).cell 3;have u:(wr).cell? ⟨w.heap.size,4,none⟩=some (.int .i64 (Cy a b 4)):=(p).cell 4;have v:(wr).cell? ⟨w.heap.size,5,none⟩=some (.int .i64 (Cy a b 5)):=(p).cell 5;have f:(wr).cell? ⟨w.heap.size,6,none⟩=some (.int .i64 (Cy a b 6)):=(p).cell 6;have g:(wr).cell? ⟨w.heap.size,7,none⟩=some (.int .i64 (Cy a b 7)):=(p).cell 7;go_wp2_with fail;refine(NA _ _ h.out).mono ?_;rintro e I ⟨rfl,K⟩;have X:=p.ext K;have Z:=J.out.2.2.1.ext K;clear q L l d u v f g;have q:(I).cell? ⟨w.heap.size,0,none⟩=some (.int .i64 (Cy a b 0)):=(X).cell 0;have L:(I).cell? ⟨w.heap.size,1,none⟩=some (.int .i64 (Cy a b 1)):=(X).cell 1;have l:(I).cell? ⟨w.heap.size,2,none⟩=some (.int .i64 (Cy a b 2)):=(X).cell 2;have d:(I).cell? ⟨w.heap.size,3,none⟩=some (.int .i64 (Cy a b 3)):=(X).cell 3;have u:(I).cell? ⟨w.heap.size,4,none⟩=some (.int .i64 (Cy a b 4)):=(X).cell 4;have v:(I).cell? ⟨w.heap.size,5,none⟩=some (.int .i64 (Cy a b 5)):=(X).cell 5;have f:(I).cell? ⟨w.heap.size,6,none⟩=some (.int .i64 (Cy a b 6)):=(X).cell 6;have g:(I).cell? ⟨w.heap.size,7,none⟩=some (.int .i64 (Cy a b 7)):=(X).cell 7;have c:(I).cell? ⟨w.heap.size+2,0,none⟩=some (.int .i64 0):=(Z).cell 0;have j:(I).cell? ⟨w.heap.size+2,1,none⟩=some (.int .i64 0):=(Z).cell 1;have Y:(I).cell? ⟨w.heap.size+2,2,none⟩=some (.int .i64 0):=(Z).cell 2;have m:(I).cell? ⟨w.heap.size+2,3,none⟩=some (.int .i64 0):=(Z).cell 3;have t:(I).cell? ⟨w.heap.size+2,4,none⟩=some (.int .i64 0):=(Z).cell 4;have H:(I).cell? ⟨w.heap.size+2,5,none⟩=some (.int .i64 0):=(Z).cell 5;have P:(I).cell? ⟨w.heap.size+2,6,none⟩=some (.int .i64 0):=(Z).cell 6;have T:(I).cell? ⟨w.heap.size+2,7,none⟩=some (.int .i64 0):=(Z).cell 7;have o:=(Z).frozen 0;have R:=(Z).frozen 1;have S:=(Z).frozen 2;have W:=(Z).frozen 3;have r:=(Z).frozen 4;have U:=(Z).frozen 5;have z6:=(Z).frozen 6;have z7:=(Z).frozen 7;replace Z:=Ae Z;replace X:=Ae X;replace p:=Ae p;go_wp2;refine bodyPost_ret (v:=.tuple #[.agg #[.int .i64 (Cy a b 0),.int .i64 (Cy a b 1),.int .i64 (Cy a b 2),.int .i64 (Cy a b 3),.int .i64 (Cy a b 4),.int .i64 (Cy a b 5),.int .i64 (Cy a b 6),.int .i64 (Cy a b 7)],.int .i64 0]) (by simp[results,Tryz.results323,go_sem,c,j,Y,m,t,H,P,T]) rfl ⟨rfl,?_⟩;exact(J.out.2.2.2.trans K).put8 (b:=w.heap.size+2) ZbK (Cy a b)
theorem A4b:∀m:Nat,m<256->∀k:Nat,k<8->bits BinOp.or IntKind.u8 (m:Int) (2^k)=(m ||| 2^k:Nat):=Ziw
def suppTo(a:Nat->Int):Nat->Nat
 |0=>0
 |k+1=>if 0<a k then suppTo a k |||2^k else suppTo a k
theorem Kf(a:Nat->Int):∀k,suppTo a k<2^k
 |0=>by simp[suppTo]
 |k+1=>by
  have q:=Kf a k;have B:2^k<2^(k+1):=Nat.pow_lt_pow_right ZbK ZbK;rw[suppTo];split
  .exact Nat.or_lt_two_pow ZbK B
  .omega
theorem Vr(a:Nat->Int)(w:World) :
  Calls Tryz.prog 299 #[.agg #[.int .i64 (a 0),.int .i64 (a 1),.int .i64 (a 2),.int .i64 (a 3),.int .i64 (a 4),.int .i64 (a 5),.int .i64 (a 6),.int .i64 (a 7)]] w λe N=>e=.returned (.int .u8 (suppTo a 8))/\Ext w N:=by
 go_enter Tryz.func299,Tryz.ntmps299;go_wp2;go_loopw [3,7] (λs i wr=>∃k:Nat,k<=8/\i=.int .i64 k/\s=.int .u8 (suppTo a k)/\Hid (Ext w wr)) (λ_ i _=>8-(intOf i).toNat)
 case atStart=>exact Ziv
 case round=>
  obtain⟨k,C,rfl,rfl,S⟩:=hrel;by_cases Q:k<8
  .have E:=λW=>Fz a k Q W
   have F:=Kf a k;have B:suppTo a k<256:=Nat.lt_of_lt_of_le F (Nat.pow_le_pow_right (n:=2) ZbK (show k<=8 by omega));clear F;have f:Hid (suppTo a (k+1)=if 0<a k then suppTo a k ||| 2^k else suppTo a k):=rfl;generalize suppTo a k=s at *;generalize a k=x at *;by_cases A:0<x
   .have d:=f.out
    rw[if_pos A]at d;replace d:=Ae d;clear f
    have t:Hid ((2:Int)^k%256=2^k):=by
     rcases lt8 Q with rfl | rfl | rfl | rfl | rfl | rfl | rfl | rfl<;>rfl
    go_wp2;exact⟨⟨k+1,Q,by simp,by rw[d.out,t.out,A4b s B k Q],S⟩,by simp[intOf];omega⟩
   .have d:=f.out
    rw[if_neg A]at d;replace d:=Ae d;clear f;go_wp2;exact⟨⟨k+1,Q,by simp,by rw[d.out],S⟩,by simp[intOf];omega⟩
  .exact Zax
theorem A6P:∀m:Nat,m<256->∀k:Nat,k<8->(bits BinOp.and IntKind.u8 ((m:Int)/2^k) 1==1)=m.testBit k:=Ziw
theorem A62(m k:Nat)(w:World)(t:m<256)(C:k<8) :
  Calls Tryz.prog 232 #[.int .u8 m,.int .i64 k] w λe N=>e=.returned (.bool (m.testBit k))/\w=N:=by
 go_enter Tryz.func232,Tryz.ntmps232;go_wp2;go_ret;exact⟨by rw[A6P m t k C];rfl,rfl⟩
def Jv(i:Nat)(n:Int)(j:Nat):Int:=if j=i then n else 0
theorem OwnRows.base_mono{base c:Nat}{v:Value}{R:List (Nat->Int)}(h:OwnRows t base w v R)(F:c<=base):OwnRows t c w v R:=by
 obtain⟨A,B⟩:=h;refine⟨A,?_⟩;rcases B with B | ⟨g,cap,cur,h3,h4,h5⟩
 .exact .inl B
 .exact .inr ⟨g,cap,cur,h3,by omega,h5⟩
theorem Pf(a b:Nat->Int)(W:World):(Op.equalIn 10000 36 (.agg #[.int .i64 (a 0),.int .i64 (a 1),.int .i64 (a 2),.int .i64 (a 3),.int .i64 (a 4),.int .i64 (a 5),.int .i64 (a 6),.int .i64 (a 7)]) (.agg #[.int .i64 (b 0),.int .i64 (b 1),.int .i64 (b 2),.int .i64 (b 3),.int .i64 (b 4),.int .i64 (b 5),.int .i64 (b 6),.int .i64 (b 7)])).run Tryz.prog W=.ok (JK a b) W:=by
 obtain⟨i,M⟩:∃i,Tryz.prog.info? 3=some i:=Option.isSome_iff_exists.1 ZbM;have:=run_equalIn_array (P:=Tryz.prog) W 9999 (t:=36) (e:=3) (n:=8) (c8 a) (c8 b) ZbM M;exact ZhN
def KH(a b:Nat->Int)(i:Nat):Int:=a i-b i
def DS(d:Nat->Int):Nat->Nat->Int
 |_,0=>0
 |k,n+1=>if d k=0 then DS d (k+1) n else if d k<0 then -1 else 1
def Gx(r d:Nat->Int):Int:=DC (λi=>r i*d i) 8
def GR:List (Nat->Int)->(Nat->Int)->Int
 |[],d=>DS d 0 8
 |r::R,d=>if Gx r d<0 then -1 else if 0<Gx r d then 1 else GR R d
theorem Km(a b:Nat->Int):∀(n k:Nat),HP a b k n=DS (KH a b) k n
 |0,_=>rfl
 |n+1,k=>by
  rw[HP,DS,Km a b n (k+1)];have e:KH a b k=a k-b k:=rfl;generalize KH a b k=d at *;by_cases h:a k=b k
  .rw [if_pos h,if_pos ZbK]
  .by_cases A:a k<b k
   .simp only[if_neg h,if_pos A];rw[if_neg ZbK,if_pos ZbK]
   .simp only[if_neg h,if_neg A];rw[if_neg ZbK,if_neg ZbK]
theorem DX(a b:Nat->Int):∀R:List (Nat->Int),Ho R a b=GR R (KH a b)
 |[]=>by rw[Ho,HV,if_pos rfl];exact Km a b 8 0
 |r::R=>by
  have q:=DX a b R;unfold Ho at q ⊢;rw[HV,GR,<-q];show(if(if NH r a b 8<0 then _ else _)=0 then _ else _)=if NH r a b 8<0 then _ else if 0<NH r a b 8 then _ else _
  by_cases A:NH r a b 8<0
  .simp only[if_pos A];rw[if_neg ZbK]
  .simp only[if_neg A]
   by_cases B:0<NH r a b 8
   .simp only[if_pos B];rw[if_neg ZbK]
   .simp only[if_neg B]
theorem Rv(a b:Nat->Int):∀k,DC (λi=>a i+b i) k=DC a k+DC b k
 |0=>rfl
 |k+1=>by simp only[DC,Rv a b k];omega
theorem Ru(a:Nat->Int):∀k,DC (λi=>-(a i)) k=-(DC a k)
 |0=>rfl
 |k+1=>by simp only[DC,Ru a k];omega
theorem HJ{a b:Nat->Int}:∀{k:Nat},(∀i,i<k->a i=b i)->DC a k=DC b k
 |0,_=>rfl
 |k+1,h=>by rw[DC,DC,HJ λi M=>h i ZbK,h k ZbK]
theorem A07(r d e:Nat->Int):Gx r (Cy d e)=Gx r d+Gx r e:=by
 unfold Gx;rw[<-Rv];exact HJ λi _=>by simp only[Cy,Int.mul_add]
theorem A06(r d:Nat->Int):Gx r (λi=>-(d i))=-(Gx r d):=by
 unfold Gx;rw[<-Ru];exact HJ λi _=>by rw[Int.mul_neg]
theorem Va(h:∀i,i<8->vw i=uJ i):Gx vd vw=Gx vd uJ:=HJ λi M=>by rw[h i M]
theorem Nt{d e:Nat->Int}:∀(n k:Nat),(∀i,k<=i->i<k+n->d i=e i)->DS d k n=DS e k n
 |0,_,_=>rfl
 |n+1,k,h=>by rw[DS,DS,h k ZbK ZbK,Nt n (k+1) λi A B=>h i ZbK ZbK]
theorem Hn{d e:Nat->Int}(h:∀i,i<8->d i=e i):∀R:List (Nat->Int),GR R d=GR R e
 |[]=>Nt 8 0 λi _ M=>h i ZbK
 |r::R=>by rw[GR,GR,Va h,Hn h R]
theorem Rz(d:Nat->Int):∀(n k:Nat),DS d k n=-1\/DS d k n=0\/DS d k n=1
 |0,_=>.inr (.inl rfl)
 |n+1,k=>by
  rw[DS];split
  .exact Rz d n (k+1)
  .split
   .exact .inl rfl
   .exact .inr (.inr rfl)
theorem Uz(d:Nat->Int):∀R:List (Nat->Int),GR R d=-1\/GR R d=0\/GR R d=1
 |[]=>Rz d 8 0
 |r::R=>by
  rw[GR];split
  .exact .inl rfl
  .split
   .exact .inr (.inr rfl)
   .exact Uz d R
theorem RA(d:Nat->Int):∀(n k:Nat),DS (λi=>-(d i)) k n=-(DS d k n)
 |0,_=>rfl
 |n+1,k=>by
  simp only[DS];rw[RA d n (k+1)];by_cases h:d k=0
  .rw [if_pos h,if_pos ZbK]
  .rw [if_neg h, if_neg ZbK]
   by_cases A:d k<0
   .rw [if_pos A,if_neg ZbK];rfl
   .rw [if_neg A,if_pos ZbK]
theorem UA(d:Nat->Int):∀R:List (Nat->Int),GR R (λi=>-(d i))=-(GR R d)
 |[]=>RA d 8 0
 |r::R=>by
  simp only[GR];rw[A06,UA d R];by_cases h:Gx r d<0
  .rw [if_pos h,if_neg ZbK,if_pos ZbK];rfl
  .rw [if_neg h]
   by_cases A:0<Gx r d
   .rw [if_pos A,if_pos ZbK]
   .rw [if_neg A,if_neg ZbK,if_neg ZbK]
theorem Pd{d:Nat->Int}:∀(n k:Nat),DS d k n=0->∀i,k<=i->i<k+n->d i=0
 |0,_,_,i,A,B=>by omega
 |n+1,k,h,i,A,B=>by
  rw[DS]at h;split at h
  .rename_i g
   by_cases e:i=k
   .rw [e];exact g
   .exact Pd n (k+1) h i ZbK ZbK
  .split at h<;>omega
theorem RJ{d:Nat->Int}:∀{R:List (Nat->Int)},GR R d=0->∀i,i<8->d i=0
 |[],h,i,M=>Pd 8 0 h i ZbK ZbK
 |r::R,h,i,M=>by
  rw[GR]at h;split at h
  .omega
  .split at h
   .omega
   .exact RJ h i M
theorem RB{d e:Nat->Int}:∀(n k:Nat),0<=DS d k n->0<=DS e k n->(0<=DS (Cy d e) k n/\(0<DS d k n\/0<DS e k n->0<DS (Cy d e) k n))
 |0,_,_,_=>⟨by simp[DS],by simp[DS]⟩
 |n+1,k,A,B=>by
  rw[DS]at A B;simp only[DS];have s:Cy d e k=d k+e k:=rfl;by_cases Z:d k=0
  .rw [if_pos Z]at A ⊢
   by_cases X:e k=0
   .rw [if_pos X]at B ⊢
    rw[if_pos ZbK];exact RB n (k+1) A B
   .rw [if_neg X]at B ⊢
    by_cases K:e k<0
    .rw [if_pos K]at B;omega
    .rw [if_neg K,if_neg ZbK,if_neg ZbK];exact Zix
  .rw [if_neg Z]at A ⊢
   by_cases M:d k<0
   .rw [if_pos M]at A;omega
   .by_cases X:e k=0
    .rw [if_pos X,if_neg M,if_neg ZbK,if_neg ZbK];exact Zix
    .rw [if_neg X]at B ⊢
     by_cases K:e k<0
     .rw [if_pos K]at B;omega
     .rw [if_neg M,if_neg K,if_neg ZbK,if_neg ZbK];exact Zix
theorem UB{d e:Nat->Int}:∀{R:List (Nat->Int)},0<=GR R d->0<=GR R e->(0<=GR R (Cy d e)/\(0<GR R d\/0<GR R e->0<GR R (Cy d e)))
 |[],A,B=>RB 8 0 A B
 |r::R,A,B=>by
  rw[GR]at A B;simp only[GR];rw[A07];by_cases C:Gx r d<0
  .rw [if_pos C]at A;omega
  .by_cases V:Gx r e<0
   .rw [if_pos V]at B;omega
   .rw [if_neg C]at A ⊢
    rw[if_neg V]at B ⊢;rw[if_neg ZbK];by_cases U:0<Gx r d
    .rw [if_pos U,if_pos ZbK];exact Zix
    .rw [if_neg U]at A ⊢
     by_cases n:0<Gx r e
     .rw [if_pos n,if_pos ZbK];exact Zix
     .rw [if_neg n]at B ⊢
      rw[if_neg ZbK];exact UB A B
theorem A1B(R:List (Nat->Int))(a b:Nat->Int):Ho R a b=-1\/Ho R a b=0\/Ho R a b=1:=by
 rw[DX];exact Uz _ _
theorem A1C(R:List (Nat->Int))(a b:Nat->Int):Ho R b a=-(Ho R a b):=by
 rw[DX,DX,<-UA];exact Hn (λi _=>by simp only[KH];omega) R
theorem ZQ:Ho vx vd vw=0↔∀i,i<8->vd i=vw i:=by
 constructor
 .intro h i M
  rw[DX]at h;have:=RJ h i M;simp only[KH]at this;omega
 .intro h;exact A3y h vx
theorem WJ(A:0<=Ho vx vd vw)(B:0<=Ho vx vw uJ):0<=Ho vx vd uJ/\(0<Ho vx vd vw\/0<Ho vx vw uJ->0<Ho vx vd uJ):=by
 rw[DX]at A B;rw[DX vd uJ vx,DX vd vw vx,DX vw uJ vx];rw[Hn (d:=KH vd uJ) (e:=Cy (KH vd vw) (KH vw uJ)) (λi _=>by simp only[KH,Cy];omega) vx];exact UB A B
theorem WK{a b Q r:Nat->Int}(A:∀i,i<8->a i=Q i)(B:∀i,i<8->b i=r i):Ho vx a b=Ho vx Q r:=by
 rw[DX,DX];exact Hn (λi M=>by simp only[KH,A i M,B i M]) vx
theorem A1D(R:List (Nat->Int))(a b c:Nat->Int):Ho R (Cy a c) (Cy b c)=Ho R a b:=by
 rw[DX,DX];exact Hn (λi _=>by simp only[KH,Cy];omega) R
def Eqv(a b:Nat->Int):Prop:=∀i,i<8->a i=b i
theorem Eqv.refl(a:Nat->Int):Eqv a a:=λ_ _=>rfl
theorem Eqv.symm{a b:Nat->Int}(h:Eqv a b):Eqv b a:=λi M=>(h i M).symm
structure Tm where
 c:Rat
 m:Nat->Int
instance:Inhabited Tm:=⟨⟨0,λ_=>0⟩⟩
def lx(a b:Nat->Int):Int:=Ho [] a b
theorem A1N(a b:Nat->Int):lx a b=-1\/lx a b=0\/lx a b=1:=A1B _ _ _
theorem A1O(a b:Nat->Int):lx b a=-(lx a b):=A1C _ _ _
theorem Ox:lx vd vw=0↔Eqv vd vw:=ZQ
theorem A1P{a b Q r:Nat->Int}(A:Eqv a Q)(B:Eqv b r):lx a b=lx Q r:=WK A B
theorem PJ(A:0<lx vd vw)(B:0<lx vw uJ):0<lx vd uJ:=(WJ (Int.le_of_lt A) (Int.le_of_lt B)).2 (.inl A)
theorem A5i(a b c:Nat->Int):lx (Cy a c) (Cy b c)=lx a b:=A1D _ _ _ _
theorem Sg(a b:Nat->Int):Cy a b=Cy b a:=by funext i;simp only[Cy];omega
def Dec(P:List Tm):Prop:=P.Pairwise λs t=>0<lx s.m t.m
def Canon(P:List Tm):Prop:=Dec P/\∀t∈P,t.c≠0
def SameL:List Tm->List Tm->Prop
 |[],[]=>True
 |s::P,t::Q=>s.c=t.c/\Eqv s.m t.m/\SameL P Q
 |_,_=>False
theorem SameL.length:∀{P Q:List Tm},SameL P Q->P.length=Q.length
 |[],[],_=>rfl
 |_::_,_::_,h=>by simp[SameL.length h.2.2]
 |[],_::_,h=>h.elim
 |_::_,[],h=>h.elim
def Ii:List Tm->List Tm->List Tm
 |[],Q=>Q
 |s::P,[]=>s::P
 |s::P,t::Q=>
  if 0<lx s.m t.m then s::Ii P (t::Q)
  else if lx s.m t.m<0 then t::Ii (s::P) Q
  else if s.c+t.c=0 then Ii P Q else⟨s.c+t.c,s.m⟩::Ii P Q
termination_by P Q=>P.length+Q.length
theorem YO(P:List Tm):Ii P []=P:=by cases P<;>simp[Ii]
theorem HO:∀(P Q:List Tm) (u:Tm),u∈Ii P Q->(∃s∈P,s.m=u.m)\/∃t∈Q,t.m=u.m
 |[],Q,u,h=>by simp only[Ii]at h;exact .inr ⟨u,h,rfl⟩
 |s::P,[],u,h=>by simp only[Ii]at h;exact .inl ⟨u,h,rfl⟩
 |s::P,t::Q,u,h=>by
  rw[Ii]at h
  have d:((∃x∈P,x.m=u.m)\/∃x∈Q,x.m=u.m)->(∃x∈s::P,x.m=u.m)\/∃x∈t::Q,x.m=u.m:=λh=>by
   rcases h with⟨x,E,e⟩ | ⟨x,E,e⟩
   .exact .inl ⟨x,by simp[E],e⟩
   .exact .inr ⟨x,by simp[E],e⟩
  split at h
  .rcases List.mem_cons.1 h with rfl | h
   .exact .inl ⟨u,by simp,rfl⟩
   .rcases HO P (t::Q) u h with⟨x,E,e⟩ | h
    .exact .inl ⟨x,by simp[E],e⟩
    .exact .inr h
  .split at h
   .rcases List.mem_cons.1 h with rfl | h
    .exact .inr ⟨u,by simp,rfl⟩
    .rcases HO (s::P) Q u h with h | ⟨x,E,e⟩
     .exact .inl h
     .exact .inr ⟨x,by simp[E],e⟩
   .split at h
    .exact d (HO P Q u h)
    .rcases List.mem_cons.1 h with rfl | h
     .exact .inl ⟨s,by simp,rfl⟩
     .exact d (HO P Q u h)
termination_by P Q=>P.length+Q.length
theorem Iu:∀{P Q:List Tm},Canon P->Canon Q->Canon (Ii P Q)
 |[],Q,_,h=>by simp only[Ii];exact h
 |s::P,[],h,_=>by simp only[Ii];exact h
 |s::P,t::Q,R,K=>by
  have a:=List.pairwise_cons.1 R.1;have y:=List.pairwise_cons.1 K.1;have J:Canon P:=⟨a.2,λu F=>R.2 u (by simp[F])⟩;have c:Canon Q:=⟨y.2,λu F=>K.2 u (by simp[F])⟩
  have m:∀{x:Tm} {L:List Tm},x.c≠0->Canon L->(∀u∈L,0<lx x.m u.m)->Canon (x::L):=λI T E=>⟨List.pairwise_cons.2 ⟨E,T.1⟩,λu F=>by
   rcases List.mem_cons.1 F with rfl | F
   .exact I
   .exact T.2 u F⟩
  rw[Ii];split
  .rename_i A
   refine m (R.2 s ZbV) (Iu J K) λu F=>?_;rcases HO P (t::Q) u F with⟨x,E,e⟩ | ⟨x,E,e⟩
   .rw [<-e];exact a.1 x E
   .rw [<-e]
    rcases List.mem_cons.1 E with rfl | E
    .exact A
    .exact PJ A (y.1 x E)
  .split
   .rename_i A B
    have G:0<lx t.m s.m:=by rw[A1O];omega
    refine m (K.2 t ZbV) (Iu R c) λu F=>?_;rcases HO (s::P) Q u F with⟨x,E,e⟩ | ⟨x,E,e⟩
    .rw [<-e]
     rcases List.mem_cons.1 E with rfl | E
     .exact G
     .exact PJ G (a.1 x E)
    .rw [<-e];exact y.1 x E
   .rename_i A B
    have X:Eqv s.m t.m:=Ox.1 (by rcases A1N s.m t.m with h | h | h<;>omega);split
    .exact Iu J c
    .rename_i C
     refine m C (Iu J c) λu F=>?_;rcases HO P Q u F with⟨x,E,e⟩ | ⟨x,E,e⟩
     .rw [<-e];exact a.1 x E
     .rw [<-e,A1P X (Eqv.refl _)];exact y.1 x E
termination_by P Q=>P.length+Q.length
theorem IP:∀P Q:List Tm,(Ii P Q).length<=P.length+Q.length
 |[],Q=>by simp only[Ii];simp
 |s::P,[]=>by simp only[Ii];simp
 |s::P,t::Q=>by
  rw[Ii];have A:=IP P (t::Q);have B:=IP (s::P) Q;have L:=IP P Q;simp only[List.length_cons]at A B L ⊢;split
  .exact ZhI
  .split
   .exact ZhI
   .split
    .omega
    .exact ZhI
termination_by P Q=>P.length+Q.length
theorem WI{m i:Nat}:BM m i=if m.testBit i then 1 else 0:=by
 unfold BM;rw[Nat.testBit,Nat.shiftRight_eq_div_pow];have B:m/2^i%2=0\/m/2^i%2=1:=by omega
 rcases B with h | h
 .rw [h];simp[h]
 .rw [h];simp[h]
theorem Hk:∀k,(GM k).length=k
 |0=>rfl
 |k+1=>by rw[GM,List.length_cons,Hk k]
theorem Hl:revRows.length=8:=by rw[revRows,List.length_cons,Hk]
end Go.Proofs.YtcikkglcoeedlaaGreat
