/- Part 5 of the proof of claimClashes_holds. No condition. -/
import Derived.BigQuiet
import Derived.ChangeAlike
import Derived.ChangeKeysEq
import Derived.Deep.Cut
import Derived.Deep.CutBlock
import Derived.Deep.DeepCutAuto
import Derived.Deep.LoopGhost
import Derived.Deep.QuietTactic
import Derived.Deep.RegionHeld3
import Derived.Laws.AppendOwnNone
import Derived.RegionTactic
import Derived.WalkKit
import Derived.WalkLawsBesides
import Derived.WalkSpells
import Derived.Test.YtcikkglcoeedlaaGreatCx1
set_option linter.unusedSimpArgs false
set_option linter.unusedVariables false
set_option maxRecDepth 100000
set_option maxHeartbeats 800000
namespace Go.Proofs.YtcikkglcoeedlaaGreat
open Go.RowKit
variable{i:IntKind}{vD:List (Nat->Int)}{n b:Nat}{ve vx uK:Nat->Int}{t:TypeId}{w h:World}
def c8(a:Nat->Int):Array Value:=#[.int .i64 (a 0),.int .i64 (a 1),.int .i64 (a 2),.int .i64 (a 3),.int .i64 (a 4),.int .i64 (a 5),.int .i64 (a 6),.int .i64 (a 7)]
theorem A1j(a:Nat->Int)(k:Nat)(h:k<8):(c8 a)[k]? = some (.int .i64 (a k)):=by
 match k,h with
 |0,_=>rfl
 |1,_=>rfl
 |2,_=>rfl
 |3,_=>rfl
 |4,_=>rfl
 |5,_=>rfl
 |6,_=>rfl
 |7,_=>rfl
theorem lt8(h:n<8):n=0\/n=1\/n=2\/n=3\/n=4\/n=5\/n=6\/n=7:=by omega
theorem Fl(a:Nat->Int)(k:Nat)(h:k<8)(W:World):(Instr.index 112 (.agg #[.int .i64 (a 0),.int .i64 (a 1),.int .i64 (a 2),.int .i64 (a 3),.int .i64 (a 4),.int .i64 (a 5),.int .i64 (a 6),.int .i64 (a 7)]) (.int .i64 (k:Int))).run Tryz.prog W=.ok (.int .i64 (a k)) W:=by
 rcases lt8 h with rfl | rfl | rfl | rfl | rfl | rfl | rfl | rfl<;>kernel_rfl
theorem XC(a:Nat->Int)(k:Nat)(h:k<8)(W:World):(part 3 (c8 a) (k*Tryz.prog.cellsOf 3)).run Tryz.prog W=.ok (.int .i64 (a k)) W:=by
 rcases lt8 h with rfl | rfl | rfl | rfl | rfl | rfl | rfl | rfl<;>kernel_rfl
def Na(a b:Nat->Int):Bool:=(List.range 8).all λi=>a i==b i
theorem Ig:Na ve vx=true↔∀i,i<8->ve i=vx i:=by simp[Na]
theorem Iw(d:Nat)(a b:Nat->Int)(W:World):∀V:List Nat,(∀i∈V,i<8)->(Op.eqItems (d+1) 3 (Tryz.prog.cellsOf 3) (c8 a) (c8 b) V).run Tryz.prog W=.ok (V.all λi=>a i==b i) W
 |[],_=>by simp[Op.eqItems]
 |i::V,h=>by
  have n:=Iw d a b W V λj u=>h j (by simp[u]);have K:=h i ZbK;simp only[Op.eqItems,Sem.run_bind,XC a i K,XC b i K,Result.andThen_ok,run_equalIn_int W d 3 .i64 .i64 _ _ (show Tryz.prog.underlying 3=some (.int .i64)by kernel_rfl)];cases G:a i==b i
  .simp [G]
  .simp only[Bool.not_true,Bool.false_eq_true,if_false,n,List.all_cons,G,Bool.true_and]
theorem Hv(a b:Nat->Int)(W:World):(Op.equalIn 10000 112 (.agg #[.int .i64 (a 0),.int .i64 (a 1),.int .i64 (a 2),.int .i64 (a 3),.int .i64 (a 4),.int .i64 (a 5),.int .i64 (a 6),.int .i64 (a 7)]) (.agg #[.int .i64 (b 0),.int .i64 (b 1),.int .i64 (b 2),.int .i64 (b 3),.int .i64 (b 4),.int .i64 (b 5),.int .i64 (b 6),.int .i64 (b 7)])).run Tryz.prog W=.ok (Na a b) W:=by
 obtain⟨i,K⟩:∃i,Tryz.prog.info? 3=some i:=Option.isSome_iff_exists.1 Zbz;have:=run_equalIn_array (P:=Tryz.prog) W 9999 (t:=112) (e:=3) (n:=8) (c8 a) (c8 b) Zbz K;exact ZgK
theorem A4O(a:Nat->Int)(k:Nat)(v:Int)(h:k<8):(c8 a).setIfInBounds k (.int .i64 v)=c8 (λi=>if i=k then v else a i):=by
 match k,h with
 |0,_=>rfl
 |1,_=>rfl
 |2,_=>rfl
 |3,_=>rfl
 |4,_=>rfl
 |5,_=>rfl
 |6,_=>rfl
 |7,_=>rfl
theorem Blk.at8{a:Nat->Int}(h:Blk w n t (c8 a))(B:b<8):w.cell? ⟨n,b,none⟩=some (.int .i64 (a b)):=by
 rw[h.cell,A1j a b B]
theorem Blk.set8(h:Blk w n t (c8 ve))(B:b<8)(v:Int):Blk (w.setCell ⟨n,b,none⟩ (.int .i64 v)) n t (c8 (λi=>if i=b then v else ve i)):=by
 rw[<-A4O ve b v B];exact h.set b _
def DE(a:Nat->Int):Nat->Int
 |0=>0
 |k+1=>DE a k+a k
def In8(a:Nat->Int)(b K:Int):Prop:=∀i,i<8->b<=a i/\a i<=K
theorem In8.mono{a:Nat->Int}{b K V B:Int}(h:In8 a b K)(u:V<=b)(A:K<=B):In8 a V B:=λi K=>by have:=h i K;omega
theorem ML{a:Nat->Int}{b K:Int}(h:In8 a b K):∀k,k<=8->b*k<=DE a k/\DE a k<=K*k
 |0,_=>by simp[DE]
 |k+1,B=>by
  have n:=ML h k Zbx;have:=h k Zbx;simp only[DE,Int.natCast_add,Int.mul_add];omega
theorem WX(a:Nat->Int)(w:World)(h:In8 a (-1000000) 1000000) :
  Calls Tryz.prog 289 #[.agg #[.int .i64 (a 0),.int .i64 (a 1),.int .i64 (a 2),.int .i64 (a 3),.int .i64 (a 4),.int .i64 (a 5),.int .i64 (a 6),.int .i64 (a 7)]] w λe O=>e=.returned (.int .i64 (DE a 8))/\Ext w O:=by
 replace h:=Ae h;go_enter Tryz.func289,Tryz.ntmps289;go_wp2;go_loopw [3,7] (λs i wr=>∃k:Nat,k<=8/\i=.int .i64 k/\s=.int .i64 (DE a k)/\Hid (Ext w wr)) (λ_ i _=>8-(intOf i).toNat)
 case atStart=>exact Zhm
 case round=>
  obtain⟨k,B,rfl,rfl,X⟩:=hrel;by_cases Q:k<8
  .have C:=λW=>Fl a k Q W
   have E:=ML h.out k B;have d:=h.out k Q;have b:DE a (k+1)=DE a k+a k:=rfl;generalize DE a k=s at *;generalize a k=x at *;replace b:=Ae b;go_wp2;exact⟨⟨k+1,Q,by simp,by rw[b.out],X⟩,by simp[intOf];omega⟩
  .exact Zaw
def HA(a b:Nat->Int):Nat->Nat->Int
 |_,0=>0
 |k,n+1=>if a k=b k then HA a b (k+1) n else if a k<b k then -1 else 1
def IE(a b:Nat->Int):Int:=HA a b 0 8
theorem OT{a b:Nat->Int}:∀(n k:Nat),(∀i,k<=i->i<k+n->a i=b i)->HA a b k n=0
 |0,_,_=>rfl
 |n+1,k,h=>by
  rw[HA,if_pos (h k Zbx Zbx)];exact OT n (k+1) λi u A=>h i Zbx Zbx
theorem A0R(a b:Nat->Int)(w:World) :
  Calls Tryz.prog 297 #[.agg #[.int .i64 (a 0),.int .i64 (a 1),.int .i64 (a 2),.int .i64 (a 3),.int .i64 (a 4),.int .i64 (a 5),.int .i64 (a 6),.int .i64 (a 7)],.agg #[.int .i64 (b 0),.int .i64 (b 1),.int .i64 (b 2),.int .i64 (b 3),.int .i64 (b 4),.int .i64 (b 5),.int .i64 (b 6),.int .i64 (b 7)]] w λe O=>e=.returned (.int .i64 (IE a b))/\Ext w O:=by
 have z:=λW=>Hv a b W
 cases C:Na a b with
 |true=>
  rw[C]at z;go_enter Tryz.func297,Tryz.ntmps297;go_wp2;go_ret;refine⟨?_,((Ext.refl _).alloc _).alloc _⟩;rw[IE,OT 8 0 λi _ h=>Ig.1 C i Zbx];rfl
 |false=>
  rw[C]at z;have L:¬∀i,i<8->a i=b i:=λh=>by rw[Ig.2 h]at C;cases C
  clear C;replace L:=Ae L;have N:Hid (Blk ((w.alloc (.cells #[.int .i64 (a 0),.int .i64 (a 1),.int .i64 (a 2),.int .i64 (a 3),.int .i64 (a 4),.int .i64 (a 5),.int .i64 (a 6),.int .i64 (a 7)] 112)).alloc (.cells #[.int .i64 (b 0),.int .i64 (b 1),.int .i64 (b 2),.int .i64 (b 3),.int .i64 (b 4),.int .i64 (b 5),.int .i64 (b 6),.int .i64 (b 7)] 112)) w.heap.size 112 (c8 a)):=(Blk.new _ _ _).alloc _;have p:Hid (Blk ((w.alloc (.cells #[.int .i64 (a 0),.int .i64 (a 1),.int .i64 (a 2),.int .i64 (a 3),.int .i64 (a 4),.int .i64 (a 5),.int .i64 (a 6),.int .i64 (a 7)] 112)).alloc (.cells #[.int .i64 (b 0),.int .i64 (b 1),.int .i64 (b 2),.int .i64 (b 3),.int .i64 (b 4),.int .i64 (b 5),.int .i64 (b 6),.int .i64 (b 7)] 112)) (w.heap.size+1) 112 (c8 b)):=ER _ _ ZbK;have X:Hid (Ext w ((w.alloc (.cells #[.int .i64 (a 0),.int .i64 (a 1),.int .i64 (a 2),.int .i64 (a 3),.int .i64 (a 4),.int .i64 (a 5),.int .i64 (a 6),.int .i64 (a 7)] 112)).alloc (.cells #[.int .i64 (b 0),.int .i64 (b 1),.int .i64 (b 2),.int .i64 (b 3),.int .i64 (b 4),.int .i64 (b 5),.int .i64 (b 6),.int .i64 (b 7)] 112))):=((Ext.refl _).alloc _).alloc _;go_enter Tryz.func297,Tryz.ntmps297;go_wp2;generalize ((w.alloc (.cells #[.int .i64 (a 0),.int .i64 (a 1),.int .i64 (a 2),.int .i64 (a 3),.int .i64 (a 4),.int .i64 (a 5),.int .i64 (a 6),.int .i64 (a 7)] 112)).alloc (.cells #[.int .i64 (b 0),.int .i64 (b 1),.int .i64 (b 2),.int .i64 (b 3),.int .i64 (b 4),.int .i64 (b 5),.int .i64 (b 6),.int .i64 (b 7)] 112))=G at *;go_loopw [5] (λi wr=>∃k:Nat,k<8/\i=.int .i64 k/\Hid ((¬∀i,k<=i->i<8->a i=b i)/\IE a b=HA a b k (8-k)/\Blk wr w.heap.size 112 (c8 a)/\Blk wr (w.heap.size+1) 112 (c8 b)/\Ext w wr)) (λi _=>8-(intOf i).toNat)
  case atStart=>exact⟨0,by omega,rfl,λh=>L.out λi K=>h i Zbx K,rfl,N.out,p.out,X.out⟩
  case round=>
   obtain⟨k,B,rfl,J⟩:=hrel;have Y:=J.out.2.2.1.at8 B;have l:=J.out.2.2.2.1.at8 B
   have E:Hid (HA a b k (8-k)=if a k=b k then HA a b (k+1) (8-(k+1))else if a k<b k then -1 else 1):=by
    rw[show 8-k=8-(k+1)+1 by omega];rfl
   have F:Hid (a k=b k->k+1<8/\¬∀i,k+1<=i->i<8->a i=b i):=λh=>by
    have u:¬∀i,k+1<=i->i<8->a i=b i:=λA=>J.out.1 λi I V=>by
     by_cases e:i=k
     .rw [e];exact h
     .exact A i Zbx V
    refine⟨?_,u⟩;by_cases r:k+1<8
    .exact r
    .exact absurd (λi I V=>by omega) u
   generalize a k=x at *;generalize b k=y at *;by_cases S:x=y
   .have M:=F.out S
    have n:=E.out;rw[if_pos S]at n;replace n:=Ae (J.out.2.1.trans n);have R:=M.1;replace M:=Ae M.2;go_wp2;go_quiet (fail);go_wp2;exact⟨⟨k+1,R,by simp,M.out,n.out,J.out.2.2.1,J.out.2.2.2.1,J.out.2.2.2.2.drewN _⟩,by simp[intOf];omega⟩
   .have n:=E.out
    rw[if_neg S]at n;replace n:=Ae (J.out.2.1.trans n);by_cases Q:x<y
    .rw [if_pos Q]at n
     go_wp2;go_quiet (fail);go_wp2;go_quiet (fail);go_wp2;exact Zgp
    .rw [if_neg Q]at n
     go_wp2;go_quiet (fail);go_wp2;go_quiet (fail);go_wp2;exact Zgp
def MP(R:List (Nat->Int))(k:Nat):Nat->Int:=R.getD k (λ_=>0)
def RowsAt(a:IntKind)(t:TypeId)(w:World)(v:Value)(R:List (Nat->Int)):Prop:=
 ∃(A:Option Addr) (c:Nat),v=.slice A R.length c/\R.length<=c/\c<=9223372036854775807 /\
  (0<R.length->∃(b o:Nat) (Z:Array Value) (G:Nat×Nat),A=some ⟨b,o,none⟩/\w.heap[b]? = some (.cells Z t G)/\∀k j,k<R.length->j<8->Z[o+k*8+j]? = some (.int a (MP R k j)))
theorem RowsAt.open_{v:Value}(h:RowsAt i t w v vD):∃(A:Option Addr) (c:Nat),v=.slice A vD.length c/\vD.length<=c/\c<=9223372036854775807 /\
  (0<vD.length->∃(b o:Nat),A=some ⟨b,o,none⟩/\b<w.heap.size/\∀k j,k<vD.length->j<8->w.cell? ⟨b,o+k*8+j,none⟩=some (.int i (MP vD k j))):=by
 obtain⟨A,c,u,B,I,V⟩:=h;refine⟨A,c,u,B,I,λF=>?_⟩;obtain⟨b,o,Z,G,m,y,e⟩:=V F;exact⟨b,o,m,Bj y,λk j C E=>(CH y).trans (e k j C E)⟩
def Nc(r a b:Nat->Int)(k:Nat):Int:=DE (λi=>r i*(a i-b i)) k
def HD:List (Nat->Int)->(Nat->Int)->(Nat->Int)->Int
 |[],_,_=>0
 |r::R,a,b=>if Nc r a b 8<0 then -1 else if 0<Nc r a b 8 then 1 else HD R a b
def GR(R:List (Nat->Int))(a b:Nat->Int):Int:=if HD R a b=0 then IE a b else HD R a b
theorem Og{a:Nat->Int}:∀{k:Nat},(∀i,i<k->a i=0)->DE a k=0
 |0,_=>rfl
 |k+1,h=>by rw[DE,Og λi K=>h i Zbx,h k Zbx];rfl
theorem Pm{a b:Nat->Int}(h:∀i,i<8->a i=b i):∀R,HD R a b=0
 |[]=>rfl
 |r::R=>by
  have:Nc r a b 8=0:=Og λi K=>by rw[h i K,Int.sub_self,Int.mul_zero]
  rw[HD,this,if_neg Zbx,if_neg Zbx,Pm h R]
theorem A2A(h:∀i,i<8->ve i=vx i)(R:List (Nat->Int)):GR R ve vx=0:=by
 rw[GR,Pm h,if_pos rfl,IE,OT 8 0 λi _ K=>h i Zbx]
theorem Lp{a b:Nat->Int}(h:∀i,i<8->a i=b i):c8 a=c8 b:=by
 simp only[c8,h 0 Zbx,h 1 Zbx,h 2 Zbx,h 3 Zbx,h 4 Zbx,h 5 Zbx,h 6 Zbx,h 7 Zbx]
theorem Blk.set8'{a Q:Nat->Int}(h:Blk w n t (c8 a))(B:b<8)(v:Int)(u:Q b=v)(A:∀i,i<8->i≠b->Q i=a i):Blk (w.setCell ⟨n,b,none⟩ (.int .i64 v)) n t (c8 Q):=by
 rw[show c8 Q=c8 (λi=>if i=b then v else a i)from Lp λi K=>by
  by_cases e:i=b
  .rw [if_pos e,e,u]
  .rw [if_neg e,A i K e]]
 exact h.set8 B v
def Qf(a:Nat->Int)(k:Nat)(i:Nat):Int:=if i<k then a i else 0
theorem Is{a:Nat->Int}(h:b<n):Qf a n b=a b:=if_pos h
theorem Nx(h:¬b<n):Qf ve n b=0:=if_neg h
theorem Blk.up8(h:Blk w n t (c8 (Qf ve b)))(B:b<8){v:Int}(o:v=ve b):Blk (w.setCell ⟨n,b,none⟩ (.int .i64 v)) n t (c8 (Qf ve (b+1))):=by
 refine h.set8' B v (by rw[Is Zbx,o]) λi K A=>?_;by_cases u:i<b
 .rw [Is u,Is Zbx]
 .rw [Nx u,Nx Zbx]
theorem Blk.full8{a:Nat->Int}(h:Blk w n t (c8 (Qf a 8))):Blk w n t (c8 a):=by
 rw[<-Lp (a:=Qf a 8) λi K=>Is K];exact h
def put8(w:World)(b:Nat)(a:Nat->Int):World:=(((((((w.setCell ⟨b,0,none⟩ (.int .i64 (a 0))).setCell ⟨b,1,none⟩ (.int .i64 (a 1))).setCell ⟨b,2,none⟩ (.int .i64 (a 2))).setCell ⟨b,3,none⟩ (.int .i64 (a 3))).setCell ⟨b,4,none⟩ (.int .i64 (a 4))).setCell ⟨b,5,none⟩ (.int .i64 (a 5))).setCell ⟨b,6,none⟩ (.int .i64 (a 6))).setCell ⟨b,7,none⟩ (.int .i64 (a 7))
theorem Ext.put8(u:Ext w h){b:Nat}(E:w.heap.size<=b)(a:Nat->Int):Ext w (put8 h b a):=
 (((((((u.set (p:=⟨b,0,none⟩) E _).set (p:=⟨b,1,none⟩) E _).set (p:=⟨b,2,none⟩) E _).set (p:=⟨b,3,none⟩) E _).set (p:=⟨b,4,none⟩) E _).set (p:=⟨b,5,none⟩) E _).set (p:=⟨b,6,none⟩) E _).set (p:=⟨b,7,none⟩) E _
def BH(m:Nat)(i:Nat):Int:=(m >>> i%2:Nat)
def rl(R:List (Nat->Int)):List Value:=R.flatMap λa=>(c8 a).toList
theorem RW(a:Nat->Int)(R:List (Nat->Int)):rl (a::R)=(c8 a).toList++rl R:=rfl
theorem YI(R S:List (Nat->Int)):rl (R++S)=rl R++rl S:=by simp[rl]
theorem GJ:∀R:List (Nat->Int),(rl R).length=R.length*8
 |[]=>rfl
 |a::R=>by rw[RW,List.length_append,GJ R];simp[c8];omega
theorem Vw(a:Nat->Int)(R:List (Nat->Int))(k:Nat):MP (a::R) (k+1)=MP R k:=by simp[MP]
theorem Vx:∀(R:List (Nat->Int)) (k j:Nat),k<R.length->j<8->(rl R)[k*8+j]? = some (.int .i64 (MP R k j))
 |[],k,j,h,_=>by simp at h
 |a::R,0,j,_,i=>by
  rw[RW,List.getElem?_append_left (by simp[c8];omega),Nat.zero_mul,Nat.zero_add,Array.getElem?_toList,A1j a j i];rfl
 |a::R,k+1,j,B,i=>by
  rw[RW,List.getElem?_append_right (by simp[c8];omega),Vw,<-Vx R k j Zck i];congr 1;simp[c8];omega
theorem A46{u:Value}(h:u∈rl vD):u.oneCell'=true:=by
 simp only[rl,List.mem_flatMap]at h;obtain⟨a,_,M⟩:=h;simp[c8]at M;rcases M with rfl | rfl | rfl | rfl | rfl | rfl | rfl | rfl<;>rfl
def OwnRows(t:TypeId)(base:Nat)(w:World)(v:Value)(R:List (Nat->Int)):Prop:=w.ownsRow base t 8 v R.length (rl R)
theorem OwnRows.rows{base:Nat}{v:Value}{R:List (Nat->Int)}(h:OwnRows t base w v R):RowsAt .i64 t w v R:=by
 obtain⟨u,A⟩:=h;rcases A with⟨rfl,C⟩ | ⟨g,cap,cur,rfl,_,hg,hc,hm,hsz,ht⟩
 .exact ⟨none,0,by rw[C],by omega,by omega,λF=>by omega⟩
 .refine ⟨_, cap, rfl, hc, by simpa [maxLen] using hm, λ_=>⟨g, 0, cur, (0, 0), rfl, hg, λk j B i=>?_⟩⟩
  have d:(cur.toList.take (R.length*8))[k*8+j]? = (rl R)[k*8+j]?:=by rw[ht]
  rw[List.getElem?_take,if_pos Zbx,Vx R k j B i]at d;rw[Nat.zero_add];simpa using d
theorem OwnRows.form{v:Value}(h:OwnRows t n w v vD):∃A c,v=.slice A vD.length c:=by
 obtain⟨_,u⟩:=h;rcases u with⟨rfl,B⟩ | ⟨g,cap,cur,rfl,_⟩
 .exact ⟨none,0,by rw[B]⟩
 .exact ⟨_,_,rfl⟩
theorem OwnRows.ext{base:Nat}{v:Value}{R:List (Nat->Int)}(u:OwnRows t base w v R)(a:Ext w h):OwnRows t base h v R:=by
 obtain⟨A,B⟩:=u;refine⟨A,?_⟩;rcases B with B | ⟨g,cap,cur,h3,h4,hg,h5⟩
 .exact .inl B
 .exact .inr ⟨g,cap,cur,h3,h4,(a.block (Bj hg)).trans hg,h5⟩
theorem OwnRows.blk{base g:Nat}{R:List (Nat->Int)}{c:Nat}(u:base<=g)(E:Blk w g t (rl R).toArray)(G:c=R.length)(s:R.length<=1000000000000):OwnRows t base w (.slice (some ⟨g,0,none⟩) R.length c) R:=by
 subst G;exact⟨GJ R,.inr ⟨g,_,_,rfl,u,E,Nat.le_refl _,by simp only[maxLen];omega,by simp[GJ],by rw[List.toList_toArray,List.take_of_length_le (by rw[GJ];omega)]⟩⟩
theorem OwnRows.base_le{base:Nat}{v:Value}{R:List (Nat->Int)}(h:OwnRows t base w v R):∀k,v.ownBlock=some k->base<=k:=by
 intro k B;obtain⟨u,A⟩:=h;rcases A with⟨rfl,_⟩ | ⟨g,cap,cur,rfl,h4,hg,h5⟩
 .cases B
 .cases B;exact h4
def Xb(t:TypeId)(u base:Nat)(w:World)(v x:Value)(R S:List (Nat->Int)):Prop:=
 ∃A c O,(Builtin.append_ #[u,u] u #[v,x]).run Tryz.prog w=.ok (.slice A (R.length+S.length) c) O/\OwnRows t base O (.slice A (R.length+S.length) c) (R++S)/\w.grownBy O v.ownBlock
theorem Lr{base:Nat}{v x:Value}{R S:List (Nat->Int)}(h:OwnRows 36 base w v R)(C:RowsAt .i64 36 w x S)(g:0<S.length)(B:R.length+S.length<=1000000000000)(E:base<=w.heap.size):Xb 36 30 base w v x R S:=by
 obtain⟨i,K,X,U,d⟩:=info_parts (show(Tryz.prog.info? 36).map (λi=>(i.zero,i.size,i.bytes))=some (some (.agg (c8 λ_=>0)),8,64)by kernel_rfl);obtain⟨A,c,rfl,G,s,a⟩:=C.open_;obtain⟨b,o,rfl,Y,N⟩:=a g
 have f:∀(q:Nat) (u:Value),(rl S)[q]? = some u->w.cell? ((⟨b,o,none⟩:Addr).add q)=some u:=by
  intro q u M;have z:q<S.length*8:=by rw[<-GJ];exact(List.getElem?_eq_some_iff.1 M).1
  have e:q=q/8*8+q%8:=by omega
  have Z:=Vx S (q/8) (q%8) Zbx Zbx;rw[<-e,M]at Z;have F:o+q=o+q/8*8+q%8:=by omega
  rw[Z,VY,F];exact N (q/8) (q%8) Zbx Zbx
 obtain ⟨L, O, Q, W, I, _⟩ := run_append_own (P := Tryz.prog) w base 30 30 36 i _ 8 64 Tryz.underlying30 K X U d rfl Zbx
  v R.length (rl R) h ⟨b,o,none⟩ S.length c (rl S) (GJ S) f (λu M=>A46 M) ZdR Zbx E
 have V:OwnRows 36 base O L (R++S):=by
  unfold OwnRows;rw[List.length_append,YI];exact W
 obtain⟨A,r,rfl⟩:=V.form;rw[List.length_append]at Q V;exact⟨A,r,O,Q,V,I⟩
def Lx(R:List (Nat->Int))(w:World)(e:Ending)(O:World):Prop:=
 ∃(A:Option Addr) (c:Nat),e=.returned (.slice A R.length c)/\OwnRows 36 w.heap.size O (.slice A R.length c) R/\Ext w O
theorem Ext.grown'{a w O:World}{row:Option Nat}(h:Ext a w)(G:w.grownBy O row)(Y:∀k,row=some k->a.heap.size<=k):Ext a O:=Below.grown h G h.size Y
def DH(k:Nat)(i:Nat):Int:=if i=k then -1 else 0
def Gx:Nat->List (Nat->Int)
 |0=>[]
 |k+1=>DH (k+1)::Gx k
def revRows:List (Nat->Int):=BH 255::Gx 7
theorem MU(a:Nat->Int)(w:World)(h:In8 a 0 65535) :
  Calls Tryz.prog 298 #[.agg #[.int .i64 (a 0),.int .i64 (a 1),.int .i64 (a 2),.int .i64 (a 3),.int .i64 (a 4),.int .i64 (a 5),.int .i64 (a 6),.int .i64 (a 7)]] w λe O=>e=.returned (.bool true)/\Ext w O:=by
 replace h:=Ae h;go_enter Tryz.func298,Tryz.ntmps298;go_wp2;go_loopw [6] (λi wr=>∃k:Nat,k<=8/\i=.int .i64 k/\Hid (Ext w wr)) (λi _=>8-(intOf i).toNat)
 case atStart=>exact⟨0,by omega,rfl,(Ext.refl _).alloc _⟩
 case round=>
  obtain⟨k,B,rfl,X⟩:=hrel;by_cases Q:k<8
  .have C:=λW=>Fl a k Q W
   have d:=h.out k Q;generalize a k=x at *;have u:decide (x<0)=false:=ZgC
   have A:decide (65535<x)=false:=ZgC
   go_wp2;exact⟨⟨k+1,Q,by simp,X⟩,by simp[intOf];omega⟩
  .exact Zaw
theorem So(a:Nat->Int)(w:World)(h:¬In8 a 0 65535) :
  Calls Tryz.prog 298 #[.agg #[.int .i64 (a 0),.int .i64 (a 1),.int .i64 (a 2),.int .i64 (a 3),.int .i64 (a 4),.int .i64 (a 5),.int .i64 (a 6),.int .i64 (a 7)]] w λe O=>e=.returned (.bool false)/\Ext w O:=by
 replace h:=Ae h;go_enter Tryz.func298,Tryz.ntmps298;go_wp2;go_loopw [6] (λi wr=>∃k:Nat,k<=8/\i=.int .i64 k/\Hid (Ext w wr/\∀i,i<k->0<=a i/\a i<=65535)) (λi _=>8-(intOf i).toNat)
 case atStart=>exact⟨0,by omega,rfl,(Ext.refl _).alloc _,λi K=>by omega⟩
 case round=>
  obtain⟨k,B,rfl,X⟩:=hrel;by_cases Q:k<8
  .have C:=λW=>Fl a k Q W
   have b:Hid (0<=a k/\a k<=65535->∀i,i<k+1->0<=a i/\a i<=65535):=λh i K=>by
    by_cases e:i=k
    .rw [e];exact h
    .exact X.out.2 i Zbx
   generalize a k=x at *;by_cases u:x<0
   .have E:decide (x<0)=true:=Zhe
    go_wp2;go_ret;exact⟨rfl,X.out.1⟩
   .have E:decide (x<0)=false:=Zhe
    by_cases A:65535<x
    .have r:decide (65535<x)=true:=by simpa using A
     go_wp2;go_ret;exact⟨rfl,X.out.1⟩
    .have r:decide (65535<x)=false:=by simpa using A
     go_wp2;exact⟨⟨k+1,Q,by simp,X.out.1,b.out ⟨by omega,by omega⟩⟩,by simp[intOf];omega⟩
  .obtain rfl:k=8:=by omega
   exact absurd X.out.2 h.out
def Nh(a b:Nat->Int)(k i:Nat):Int:=if i<k then a i+b i else a i
def Cs(a b:Nat->Int)(i:Nat):Int:=a i+b i
theorem YZ(a b:Nat->Int)(w:World)(t:In8 a 0 65535)(E:In8 b 0 65535)(h:In8 (Cs a b) 0 65535) :
  Calls Tryz.prog 323 #[.agg #[.int .i64 (a 0),.int .i64 (a 1),.int .i64 (a 2),.int .i64 (a 3),.int .i64 (a 4),.int .i64 (a 5),.int .i64 (a 6),.int .i64 (a 7)],.agg #[.int .i64 (b 0),.int .i64 (b 1),.int .i64 (b 2),.int .i64 (b 3),.int .i64 (b 4),.int .i64 (b 5),.int .i64 (b 6),.int .i64 (b 7)]] w λe O=>e=.returned (.tuple #[.agg #[.int .i64 (Cs a b 0),.int .i64 (Cs a b 1),.int .i64 (Cs a b 2),.int .i64 (Cs a b 3),.int .i64 (Cs a b 4),.int .i64 (Cs a b 5),.int .i64 (Cs a b 6),.int .i64 (Cs a b 7)],.int .i64 0])/\Ext w O:=by
 replace h:=Ae h;replace t:=Ae t;replace E:=Ae E;go_enter Tryz.func323,Tryz.ntmps323;go_wp2;go_loopw [7] (λi wr=>∃k:Nat,k<=8/\i=.int .i64 k/\Hid (Blk wr w.heap.size 112 (c8 (Nh a b k))/\Blk wr (w.heap.size+1) 112 (c8 b)/\Blk wr (w.heap.size+2) 112 (c8 (λ_=>0))/\Ext w wr)) (λi _=>8-(intOf i).toNat)
 case atStart=>exact⟨0,by omega,rfl,((Blk.new _ _ _).alloc _).alloc _,(ER _ _ ZbK).alloc _,ER _ _ ZbK,(((Ext.refl _).alloc _).alloc _).alloc _⟩
 case round=>
  obtain⟨k,B,rfl,Z⟩:=hrel;by_cases Q:k<8
  .have C:wr.cell? ⟨w.heap.size,k,none⟩=some (.int .i64 (a k)):=by
    rw[Z.out.1.at8 Q];simp[Nh]
   have F:=Z.out.1.frozen k;have N:=Z.out.2.1.at8 Q;have S:=t.out k Q;have M:=E.out k Q
   have A:Hid (Blk (wr.setCell ⟨w.heap.size,k,none⟩ (.int .i64 (a k+b k))) w.heap.size 112 (c8 (Nh a b (k+1)))):=by
    refine Z.out.1.set8' Q _ (by simp[Nh]) λi K I=>?_;by_cases u:i<k
    .simp [Nh,u,show i<k+1 by omega]
    .simp [Nh,u,show¬i<k+1 by omega]
   generalize a k=x at *;generalize b k=y at *;go_wp2;go_region;go_wp2;exact⟨⟨k+1,Q,by simp,A.out.drew,(Z.out.2.1.far Zco _).drew,(Z.out.2.2.1.far Zco _).drew,(Z.out.2.2.2.set (p:=⟨w.heap.size,k,none⟩) (Nat.le_refl _) _).drew⟩,by simp[intOf];omega⟩
  .obtain rfl:k=8:=by omega
   have p:Blk wr w.heap.size 112 (c8 (Cs a b)):=by
    rw[<-Lp (a:=Nh a b 8) λi K=>by simp[Nh,Cs,K]];exact Z.out.1
   have r:(wr).cell? ⟨w.heap.size,0,none⟩=some (.int .i64 (Cs a b 0)):=(p).cell 0;have R:(wr).cell? ⟨w.heap.size,1,none⟩=some (.int .i64 (Cs a b 1)):=(p).cell 1;have Y:(wr).cell? ⟨w.heap.size,2,none⟩=some (.int .i64 (Cs a b 2)):=(p).cell 2;have g:(wr).cell? ⟨w.heap.size,3,none⟩=some (.int .i64 (Cs a b 3)):=(p).cell 3;have q:(wr).cell? ⟨w.heap.size,4,none⟩=some (.int .i64 (Cs a b 4)):=(p).cell 4;have j:(wr).cell? ⟨w.heap.size,5,none⟩=some (.int .i64 (Cs a b 5)):=(p).cell 5;have s:(wr).cell? ⟨w.heap.size,6,none⟩=some (.int .i64 (Cs a b 6)):=(p).cell 6;have l:(wr).cell? ⟨w.heap.size,7,none⟩=some (.int .i64 (Cs a b 7)):=(p).cell 7;go_wp2_with fail;refine(MU _ _ h.out).mono ?_;rintro e G ⟨rfl,L⟩;have V:=p.ext L;have W:=Z.out.2.2.1.ext L;clear r R Y g q j s l;have r:(G).cell? ⟨w.heap.size,0,none⟩=some (.int .i64 (Cs a b 0)):=(V).cell 0;have R:(G).cell? ⟨w.heap.size,1,none⟩=some (.int .i64 (Cs a b 1)):=(V).cell 1;have Y:(G).cell? ⟨w.heap.size,2,none⟩=some (.int .i64 (Cs a b 2)):=(V).cell 2;have g:(G).cell? ⟨w.heap.size,3,none⟩=some (.int .i64 (Cs a b 3)):=(V).cell 3;have q:(G).cell? ⟨w.heap.size,4,none⟩=some (.int .i64 (Cs a b 4)):=(V).cell 4;have j:(G).cell? ⟨w.heap.size,5,none⟩=some (.int .i64 (Cs a b 5)):=(V).cell 5;have s:(G).cell? ⟨w.heap.size,6,none⟩=some (.int .i64 (Cs a b 6)):=(V).cell 6;have l:(G).cell? ⟨w.heap.size,7,none⟩=some (.int .i64 (Cs a b 7)):=(V).cell 7;have d:(G).cell? ⟨w.heap.size+2,0,none⟩=some (.int .i64 0):=(W).cell 0;have n:(G).cell? ⟨w.heap.size+2,1,none⟩=some (.int .i64 0):=(W).cell 1;have T:(G).cell? ⟨w.heap.size+2,2,none⟩=some (.int .i64 0):=(W).cell 2;have o:(G).cell? ⟨w.heap.size+2,3,none⟩=some (.int .i64 0):=(W).cell 3;have z:(G).cell? ⟨w.heap.size+2,4,none⟩=some (.int .i64 0):=(W).cell 4;have H:(G).cell? ⟨w.heap.size+2,5,none⟩=some (.int .i64 0):=(W).cell 5;have J:(G).cell? ⟨w.heap.size+2,6,none⟩=some (.int .i64 0):=(W).cell 6;have P:(G).cell? ⟨w.heap.size+2,7,none⟩=some (.int .i64 0):=(W).cell 7;have f:=(W).frozen 0;have c:=(W).frozen 1;have X:=(W).frozen 2;have v:=(W).frozen 3;have m:=(W).frozen 4;have U:=(W).frozen 5;have z6:=(W).frozen 6;have z7:=(W).frozen 7;replace W:=Ae W;replace V:=Ae V;replace p:=Ae p;go_wp2;refine bodyPost_ret (v:=.tuple #[.agg #[.int .i64 (Cs a b 0),.int .i64 (Cs a b 1),.int .i64 (Cs a b 2),.int .i64 (Cs a b 3),.int .i64 (Cs a b 4),.int .i64 (Cs a b 5),.int .i64 (Cs a b 6),.int .i64 (Cs a b 7)],.int .i64 0]) (by simp[results,Tryz.results323,go_sem,d,n,T,o,z,H,J,P]) rfl ⟨rfl,?_⟩;exact(Z.out.2.2.2.trans L).put8 (b:=w.heap.size+2) Zbx (Cs a b)
theorem A3c:∀m:Nat,m<256->∀k:Nat,k<8->bits BinOp.or IntKind.u8 (m:Int) (2^k)=(m ||| 2^k:Nat):=Zhn
def suppTo(a:Nat->Int):Nat->Nat
 |0=>0
 |k+1=>if 0<a k then suppTo a k |||2^k else suppTo a k
theorem JG(a:Nat->Int):∀k,suppTo a k<2^k
 |0=>by simp[suppTo]
 |k+1=>by
  have n:=JG a k;have A:2^k<2^(k+1):=Nat.pow_lt_pow_right Zbx Zbx;rw[suppTo];split
  .exact Nat.or_lt_two_pow Zbx A
  .omega
theorem UA(a:Nat->Int)(w:World) :
  Calls Tryz.prog 299 #[.agg #[.int .i64 (a 0),.int .i64 (a 1),.int .i64 (a 2),.int .i64 (a 3),.int .i64 (a 4),.int .i64 (a 5),.int .i64 (a 6),.int .i64 (a 7)]] w λe O=>e=.returned (.int .u8 (suppTo a 8))/\Ext w O:=by
 go_enter Tryz.func299,Tryz.ntmps299;go_wp2;go_loopw [3,7] (λs i wr=>∃k:Nat,k<=8/\i=.int .i64 k/\s=.int .u8 (suppTo a k)/\Hid (Ext w wr)) (λ_ i _=>8-(intOf i).toNat)
 case atStart=>exact Zhm
 case round=>
  obtain⟨k,B,rfl,rfl,X⟩:=hrel;by_cases Q:k<8
  .have C:=λW=>Fl a k Q W
   have E:=JG a k;have F:suppTo a k<256:=Nat.lt_of_lt_of_le E (Nat.pow_le_pow_right (n:=2) Zbx (show k<=8 by omega));clear E;have b:Hid (suppTo a (k+1)=if 0<a k then suppTo a k ||| 2^k else suppTo a k):=rfl;generalize suppTo a k=s at *;generalize a k=x at *;by_cases u:0<x
   .have n:=b.out
    rw[if_pos u]at n;replace n:=Ae n;clear b
    have A:Hid ((2:Int)^k%256=2^k):=by
     rcases lt8 Q with rfl | rfl | rfl | rfl | rfl | rfl | rfl | rfl<;>rfl
    go_wp2;exact⟨⟨k+1,Q,by simp,by rw[n.out,A.out,A3c s F k Q],X⟩,by simp[intOf];omega⟩
   .have n:=b.out
    rw[if_neg u]at n;replace n:=Ae n;clear b;go_wp2;exact⟨⟨k+1,Q,by simp,by rw[n.out],X⟩,by simp[intOf];omega⟩
  .exact Zaw
theorem A5O:∀m:Nat,m<256->∀k:Nat,k<8->(bits BinOp.and IntKind.u8 ((m:Int)/2^k) 1==1)=m.testBit k:=Zhn
theorem A53(m k:Nat)(w:World)(s:m<256)(B:k<8) :
  Calls Tryz.prog 232 #[.int .u8 m,.int .i64 k] w λe O=>e=.returned (.bool (m.testBit k))/\w=O:=by
 go_enter Tryz.func232,Tryz.ntmps232;go_wp2;go_ret;exact⟨by rw[A5O m s k B];rfl,rfl⟩
def Jf(i:Nat)(n:Int)(j:Nat):Int:=if j=i then n else 0
theorem OwnRows.base_mono{base x:Nat}{v:Value}{R:List (Nat->Int)}(h:OwnRows t base w v R)(E:x<=base):OwnRows t x w v R:=by
 obtain⟨u,A⟩:=h;refine⟨u,?_⟩;rcases A with A | ⟨g,cap,cur,h3,h4,h5⟩
 .exact .inl A
 .exact .inr ⟨g,cap,cur,h3,by omega,h5⟩
theorem Vv(a b:Nat->Int)(W:World):(Op.equalIn 10000 36 (.agg #[.int .i64 (a 0),.int .i64 (a 1),.int .i64 (a 2),.int .i64 (a 3),.int .i64 (a 4),.int .i64 (a 5),.int .i64 (a 6),.int .i64 (a 7)]) (.agg #[.int .i64 (b 0),.int .i64 (b 1),.int .i64 (b 2),.int .i64 (b 3),.int .i64 (b 4),.int .i64 (b 5),.int .i64 (b 6),.int .i64 (b 7)])).run Tryz.prog W=.ok (Na a b) W:=by
 obtain⟨i,K⟩:∃i,Tryz.prog.info? 3=some i:=Option.isSome_iff_exists.1 Zbz;have:=run_equalIn_array (P:=Tryz.prog) W 9999 (t:=36) (e:=3) (n:=8) (c8 a) (c8 b) Zbz K;exact ZgK
def Kg(a b:Nat->Int)(i:Nat):Int:=a i-b i
def DL(d:Nat->Int):Nat->Nat->Int
 |_,0=>0
 |k,n+1=>if d k=0 then DL d (k+1) n else if d k<0 then -1 else 1
def Ge(r d:Nat->Int):Int:=DE (λi=>r i*d i) 8
def GA:List (Nat->Int)->(Nat->Int)->Int
 |[],d=>DL d 0 8
 |r::R,d=>if Ge r d<0 then -1 else if 0<Ge r d then 1 else GA R d
theorem JO(a b:Nat->Int):∀(n k:Nat),HA a b k n=DL (Kg a b) k n
 |0,_=>rfl
 |n+1,k=>by
  rw[HA,DL,JO a b n (k+1)];have e:Kg a b k=a k-b k:=rfl;generalize Kg a b k=d at *;by_cases h:a k=b k
  .rw [if_pos h,if_pos Zbx]
  .by_cases u:a k<b k
   .simp only[if_neg h,if_pos u];rw[if_neg Zbx,if_pos Zbx]
   .simp only[if_neg h,if_neg u];rw[if_neg Zbx,if_neg Zbx]
theorem DQ(a b:Nat->Int):∀R:List (Nat->Int),GR R a b=GA R (Kg a b)
 |[]=>by rw[GR,HD,if_pos rfl];exact JO a b 8 0
 |r::R=>by
  have n:=DQ a b R;unfold GR at n ⊢;rw[HD,GA,<-n];show(if(if Nc r a b 8<0 then _ else _)=0 then _ else _)=if Nc r a b 8<0 then _ else if 0<Nc r a b 8 then _ else _
  by_cases u:Nc r a b 8<0
  .simp only[if_pos u];rw[if_neg Zbx]
  .simp only[if_neg u]
   by_cases A:0<Nc r a b 8
   .simp only[if_pos A];rw[if_neg Zbx]
   .simp only[if_neg A]
theorem QH(a b:Nat->Int):∀k,DE (λi=>a i+b i) k=DE a k+DE b k
 |0=>rfl
 |k+1=>by simp only[DE,QH a b k];omega
theorem QG(a:Nat->Int):∀k,DE (λi=>-(a i)) k=-(DE a k)
 |0=>rfl
 |k+1=>by simp only[DE,QG a k];omega
theorem Hu{a b:Nat->Int}:∀{k:Nat},(∀i,i<k->a i=b i)->DE a k=DE b k
 |0,_=>rfl
 |k+1,h=>by rw[DE,DE,Hu λi K=>h i Zbx,h k Zbx]
theorem Zj(r d e:Nat->Int):Ge r (Cs d e)=Ge r d+Ge r e:=by
 unfold Ge;rw[<-QH];exact Hu λi _=>by simp only[Cs,Int.mul_add]
theorem Zi(r d:Nat->Int):Ge r (λi=>-(d i))=-(Ge r d):=by
 unfold Ge;rw[<-QG];exact Hu λi _=>by rw[Int.mul_neg]
theorem Uj(h:∀i,i<8->vx i=uK i):Ge ve vx=Ge ve uK:=Hu λi K=>by rw[h i K]
theorem MM{d e:Nat->Int}:∀(n k:Nat),(∀i,k<=i->i<k+n->d i=e i)->DL d k n=DL e k n
 |0,_,_=>rfl
 |n+1,k,h=>by rw[DL,DL,h k Zbx Zbx,MM n (k+1) λi u A=>h i Zbx Zbx]
theorem GQ{d e:Nat->Int}(h:∀i,i<8->d i=e i):∀R:List (Nat->Int),GA R d=GA R e
 |[]=>MM 8 0 λi _ K=>h i Zbx
 |r::R=>by rw[GA,GA,Uj h,GQ h R]
theorem QK(d:Nat->Int):∀(n k:Nat),DL d k n=-1\/DL d k n=0\/DL d k n=1
 |0,_=>.inr (.inl rfl)
 |n+1,k=>by
  rw[DL];split
  .exact QK d n (k+1)
  .split
   .exact .inl rfl
   .exact .inr (.inr rfl)
theorem TJ(d:Nat->Int):∀R:List (Nat->Int),GA R d=-1\/GA R d=0\/GA R d=1
 |[]=>QK d 8 0
 |r::R=>by
  rw[GA];split
  .exact .inl rfl
  .split
   .exact .inr (.inr rfl)
   .exact TJ d R
theorem QL(d:Nat->Int):∀(n k:Nat),DL (λi=>-(d i)) k n=-(DL d k n)
 |0,_=>rfl
 |n+1,k=>by
  simp only[DL];rw[QL d n (k+1)];by_cases h:d k=0
  .rw [if_pos h,if_pos Zbx]
  .rw [if_neg h, if_neg Zbx]
   by_cases u:d k<0
   .rw [if_pos u,if_neg Zbx];rfl
   .rw [if_neg u,if_pos Zbx]
theorem TK(d:Nat->Int):∀R:List (Nat->Int),GA R (λi=>-(d i))=-(GA R d)
 |[]=>QL d 8 0
 |r::R=>by
  simp only[GA];rw[Zi,TK d R];by_cases h:Ge r d<0
  .rw [if_pos h,if_neg Zbx,if_pos Zbx];rfl
  .rw [if_neg h]
   by_cases u:0<Ge r d
   .rw [if_pos u,if_pos Zbx]
   .rw [if_neg u,if_neg Zbx,if_neg Zbx]
theorem Om{d:Nat->Int}:∀(n k:Nat),DL d k n=0->∀i,k<=i->i<k+n->d i=0
 |0,_,_,i,u,A=>by omega
 |n+1,k,h,i,u,A=>by
  rw[DL]at h;split at h
  .rename_i g
   by_cases e:i=k
   .rw [e];exact g
   .exact Om n (k+1) h i Zbx Zbx
  .split at h<;>omega
theorem QU{d:Nat->Int}:∀{R:List (Nat->Int)},GA R d=0->∀i,i<8->d i=0
 |[],h,i,K=>Om 8 0 h i Zbx Zbx
 |r::R,h,i,K=>by
  rw[GA]at h;split at h
  .omega
  .split at h
   .omega
   .exact QU h i K
theorem QM{d e:Nat->Int}:∀(n k:Nat),0<=DL d k n->0<=DL e k n->(0<=DL (Cs d e) k n/\(0<DL d k n\/0<DL e k n->0<DL (Cs d e) k n))
 |0,_,_,_=>⟨by simp[DL],by simp[DL]⟩
 |n+1,k,u,A=>by
  rw[DL]at u A;simp only[DL];have t:Cs d e k=d k+e k:=rfl;by_cases W:d k=0
  .rw [if_pos W]at u ⊢
   by_cases a:e k=0
   .rw [if_pos a]at A ⊢
    rw[if_pos Zbx];exact QM n (k+1) u A
   .rw [if_neg a]at A ⊢
    by_cases B:e k<0
    .rw [if_pos B]at A;omega
    .rw [if_neg B,if_neg Zbx,if_neg Zbx];exact Zho
  .rw [if_neg W]at u ⊢
   by_cases L:d k<0
   .rw [if_pos L]at u;omega
   .by_cases a:e k=0
    .rw [if_pos a,if_neg L,if_neg Zbx,if_neg Zbx];exact Zho
    .rw [if_neg a]at A ⊢
     by_cases B:e k<0
     .rw [if_pos B]at A;omega
     .rw [if_neg L,if_neg B,if_neg Zbx,if_neg Zbx];exact Zho
theorem TL{d e:Nat->Int}:∀{R:List (Nat->Int)},0<=GA R d->0<=GA R e->(0<=GA R (Cs d e)/\(0<GA R d\/0<GA R e->0<GA R (Cs d e)))
 |[],u,A=>QM 8 0 u A
 |r::R,u,A=>by
  rw[GA]at u A;simp only[GA];rw[Zj];by_cases C:Ge r d<0
  .rw [if_pos C]at u;omega
  .by_cases E:Ge r e<0
   .rw [if_pos E]at A;omega
   .rw [if_neg C]at u ⊢
    rw[if_neg E]at A ⊢;rw[if_neg Zbx];by_cases B:0<Ge r d
    .rw [if_pos B,if_pos Zbx];exact Zho
    .rw [if_neg B]at u ⊢
     by_cases M:0<Ge r e
     .rw [if_pos M,if_pos Zbx];exact Zho
     .rw [if_neg M]at A ⊢
      rw[if_neg Zbx];exact TL u A
theorem A0G(R:List (Nat->Int))(a b:Nat->Int):GR R a b=-1\/GR R a b=0\/GR R a b=1:=by
 rw[DQ];exact TJ _ _
theorem A0H(R:List (Nat->Int))(a b:Nat->Int):GR R b a=-(GR R a b):=by
 rw[DQ,DQ,<-TK];exact GQ (λi _=>by simp only[Kg];omega) R
theorem YT:GR vD ve vx=0↔∀i,i<8->ve i=vx i:=by
 constructor
 .intro h i K
  rw[DQ]at h;have:=QU h i K;simp only[Kg]at this;omega
 .intro h;exact A2A h vD
theorem VD(u:0<=GR vD ve vx)(A:0<=GR vD vx uK):0<=GR vD ve uK/\(0<GR vD ve vx\/0<GR vD vx uK->0<GR vD ve uK):=by
 rw[DQ]at u A;rw[DQ ve uK vD,DQ ve vx vD,DQ vx uK vD];rw[GQ (d:=Kg ve uK) (e:=Cs (Kg ve vx) (Kg vx uK)) (λi _=>by simp only[Kg,Cs];omega) vD];exact TL u A
theorem VE{a b Q x:Nat->Int}(u:∀i,i<8->a i=Q i)(A:∀i,i<8->b i=x i):GR vD a b=GR vD Q x:=by
 rw[DQ,DQ];exact GQ (λi K=>by simp only[Kg,u i K,A i K]) vD
theorem A0I(R:List (Nat->Int))(a b c:Nat->Int):GR R (Cs a c) (Cs b c)=GR R a b:=by
 rw[DQ,DQ];exact GQ (λi _=>by simp only[Kg,Cs];omega) R
def Eqv(a b:Nat->Int):Prop:=∀i,i<8->a i=b i
theorem Eqv.refl(a:Nat->Int):Eqv a a:=λ_ _=>rfl
theorem Eqv.symm{a b:Nat->Int}(h:Eqv a b):Eqv b a:=λi K=>(h i K).symm
structure Tm where
 c:Rat
 m:Nat->Int
instance:Inhabited Tm:=⟨⟨0,λ_=>0⟩⟩
def lx(a b:Nat->Int):Int:=GR [] a b
theorem A0S(a b:Nat->Int):lx a b=-1\/lx a b=0\/lx a b=1:=A0G _ _ _
theorem A0T(a b:Nat->Int):lx b a=-(lx a b):=A0H _ _ _
theorem XK:lx ve vx=0↔Eqv ve vx:=YT
theorem A0U{a b Q x:Nat->Int}(u:Eqv a Q)(A:Eqv b x):lx a b=lx Q x:=VE u A
theorem OQ(u:0<lx ve vx)(A:0<lx vx uK):0<lx ve uK:=(VD (Int.le_of_lt u) (Int.le_of_lt A)).2 (.inl u)
theorem A4l(a b c:Nat->Int):lx (Cs a c) (Cs b c)=lx a b:=A0I _ _ _ _
theorem Rq(a b:Nat->Int):Cs a b=Cs b a:=by funext i;simp only[Cs];omega
def Dec(P:List Tm):Prop:=P.Pairwise λs t=>0<lx s.m t.m
def Canon(P:List Tm):Prop:=Dec P/\∀t∈P,t.c≠0
def SameL:List Tm->List Tm->Prop
 |[],[]=>True
 |s::P,t::Q=>s.c=t.c/\Eqv s.m t.m/\SameL P Q
 |_,_=>False
theorem SameL.length:∀{P Q:List Tm},SameL P Q->P.length=Q.length
 |[],[],_=>rfl
 |_::_,_::_,h=>by simp[SameL.length h.2.2]
 |[],_::_,h=>h.elim
 |_::_,[],h=>h.elim
def HL:List Tm->List Tm->List Tm
 |[],Q=>Q
 |s::P,[]=>s::P
 |s::P,t::Q=>
  if 0<lx s.m t.m then s::HL P (t::Q)
  else if lx s.m t.m<0 then t::HL (s::P) Q
  else if s.c+t.c=0 then HL P Q else⟨s.c+t.c,s.m⟩::HL P Q
termination_by P Q=>P.length+Q.length
theorem XI(P:List Tm):HL P []=P:=by cases P<;>simp[HL]
theorem Hz:∀(P Q:List Tm) (u:Tm),u∈HL P Q->(∃s∈P,s.m=u.m)\/∃t∈Q,t.m=u.m
 |[],Q,u,h=>by simp only[HL]at h;exact .inr ⟨u,h,rfl⟩
 |s::P,[],u,h=>by simp only[HL]at h;exact .inl ⟨u,h,rfl⟩
 |s::P,t::Q,u,h=>by
  rw[HL]at h
  have y:((∃x∈P,x.m=u.m)\/∃x∈Q,x.m=u.m)->(∃x∈s::P,x.m=u.m)\/∃x∈t::Q,x.m=u.m:=λh=>by
   rcases h with⟨x,C,e⟩ | ⟨x,C,e⟩
   .exact .inl ⟨x,by simp[C],e⟩
   .exact .inr ⟨x,by simp[C],e⟩
  split at h
  .rcases List.mem_cons.1 h with rfl | h
   .exact .inl ⟨u,by simp,rfl⟩
   .rcases Hz P (t::Q) u h with⟨x,C,e⟩ | h
    .exact .inl ⟨x,by simp[C],e⟩
    .exact .inr h
  .split at h
   .rcases List.mem_cons.1 h with rfl | h
    .exact .inr ⟨u,by simp,rfl⟩
    .rcases Hz (s::P) Q u h with h | ⟨x,C,e⟩
     .exact .inl h
     .exact .inr ⟨x,by simp[C],e⟩
   .split at h
    .exact y (Hz P Q u h)
    .rcases List.mem_cons.1 h with rfl | h
     .exact .inl ⟨s,by simp,rfl⟩
     .exact y (Hz P Q u h)
termination_by P Q=>P.length+Q.length
theorem Ic:∀{P Q:List Tm},Canon P->Canon Q->Canon (HL P Q)
 |[],Q,_,h=>by simp only[HL];exact h
 |s::P,[],h,_=>by simp only[HL];exact h
 |s::P,t::Q,X,Y=>by
  have g:=List.pairwise_cons.1 X.1;have R:=List.pairwise_cons.1 Y.1;have E:Canon P:=⟨g.2,λu M=>X.2 u (by simp[M])⟩;have K:Canon Q:=⟨R.2,λu M=>Y.2 u (by simp[M])⟩
  have F:∀{x:Tm} {L:List Tm},x.c≠0->Canon L->(∀u∈L,0<lx x.m u.m)->Canon (x::L):=λG O C=>⟨List.pairwise_cons.2 ⟨C,O.1⟩,λu M=>by
   rcases List.mem_cons.1 M with rfl | M
   .exact G
   .exact O.2 u M⟩
  rw[HL];split
  .rename_i A
   refine F (X.2 s ZbK) (Ic E Y) λu M=>?_;rcases Hz P (t::Q) u M with⟨x,C,e⟩ | ⟨x,C,e⟩
   .rw [<-e];exact g.1 x C
   .rw [<-e]
    rcases List.mem_cons.1 C with rfl | C
    .exact A
    .exact OQ A (R.1 x C)
  .split
   .rename_i A B
    have r:0<lx t.m s.m:=by rw[A0T];omega
    refine F (Y.2 t ZbK) (Ic X K) λu M=>?_;rcases Hz (s::P) Q u M with⟨x,C,e⟩ | ⟨x,C,e⟩
    .rw [<-e]
     rcases List.mem_cons.1 C with rfl | C
     .exact r
     .exact OQ r (g.1 x C)
    .rw [<-e];exact R.1 x C
   .rename_i A B
    have a:Eqv s.m t.m:=XK.1 (by rcases A0S s.m t.m with h | h | h<;>omega);split
    .exact Ic E K
    .rename_i I
     refine F I (Ic E K) λu M=>?_;rcases Hz P Q u M with⟨x,C,e⟩ | ⟨x,C,e⟩
     .rw [<-e];exact g.1 x C
     .rw [<-e,A0U a (Eqv.refl _)];exact R.1 x C
termination_by P Q=>P.length+Q.length
theorem ID:∀P Q:List Tm,(HL P Q).length<=P.length+Q.length
 |[],Q=>by simp only[HL];simp
 |s::P,[]=>by simp only[HL];simp
 |s::P,t::Q=>by
  rw[HL];have u:=ID P (t::Q);have A:=ID (s::P) Q;have I:=ID P Q;simp only[List.length_cons]at u A I ⊢;split
  .exact ZgG
  .split
   .exact ZgG
   .split
    .omega
    .exact ZgG
termination_by P Q=>P.length+Q.length
theorem VC{m i:Nat}:BH m i=if m.testBit i then 1 else 0:=by
 unfold BH;rw[Nat.testBit,Nat.shiftRight_eq_div_pow];have A:m/2^i%2=0\/m/2^i%2=1:=by omega
 rcases A with h | h
 .rw [h];simp[h]
 .rw [h];simp[h]
theorem GN:∀k,(Gx k).length=k
 |0=>rfl
 |k+1=>by rw[Gx,List.length_cons,GN k]
theorem GO:revRows.length=8:=by rw[revRows,List.length_cons,GN]
end Go.Proofs.YtcikkglcoeedlaaGreat
