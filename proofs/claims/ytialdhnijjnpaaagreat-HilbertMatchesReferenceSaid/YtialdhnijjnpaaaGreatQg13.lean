/- Part 13 of the proof of hilbertMatchesReference_holds. No condition. -/
import Derived.Test.YtialdhnijjnpaaaGreatQg11
import Derived.Test.YtialdhnijjnpaaaGreatQg12
set_option linter.unusedSimpArgs false
set_option linter.unusedVariables false
set_option maxRecDepth 100000
set_option maxHeartbeats 800000
namespace Go.Proofs.YtialdhnijjnpaaaGreat
open Go.RowKit
def Grew(w w':World):Prop:=Ext w w'/\w.drawn<=w'.drawn
theorem Grew.refl(w:World):Grew w w:=⟨Ext.refl w,Nat.le_refl _⟩
theorem Grew.alloc{a b:World}(h:Grew a b)(o:Obj):Grew a (b.alloc o):=⟨h.1.alloc o,h.2⟩
theorem Grew.drewN{a b:World}(h:Grew a b)(n:Nat):Grew a (b.drewN n):=⟨h.1.drewN n,Nat.le_trans h.2 (Nat.le_add_right _ _)⟩
theorem Grew.trans{a b c:World}(h:Grew a b)(k:Grew b c):Grew a c:=⟨h.1.trans k.1,Nat.le_trans h.2 k.2⟩
theorem Grew.cell{a b:World}(h:Grew a b){p:Addr}(hp:p.block<a.heap.size):b.cell? p=a.cell? p:=h.1.cell hp
theorem Grew.size{a b:World}(h:Grew a b):a.heap.size<=b.heap.size:=h.1.size
theorem Grew.grow{a b:World}(h:Grew a b):∃q os,b=Sort.grow (a.drewN q) os:=by
 obtain ⟨⟨h1,h2,h3,h4,h5⟩,h6⟩:=h
 refine ⟨b.drawn-a.drawn,b.heap.extract a.heap.size b.heap.size,?_⟩
 have hh:b.heap=a.heap++b.heap.extract a.heap.size b.heap.size:=by
  refine Array.ext_getElem? λi=>?_
  rw [Array.getElem?_append]
  by_cases hi:i<a.heap.size
  .rw [if_pos hi];exact h5 i hi
  .rw [if_neg hi,Array.getElem?_extract]
   by_cases hj:i<b.heap.size
   .rw [if_pos (by omega)];congr 1;omega
   .rw [if_neg (by omega),Array.getElem?_eq_none (by omega)]
 cases a;cases b
 simp only [Sort.grow,World.drewN] at *
 subst h1;subst h2;subst h3
 rw [<-hh]
 congr 1
 omega
theorem WI(a b:Nat->Int)(w:World) :
  Calls Tryz.prog 74 #[.agg #[.int .i64 (a 0),.int .i64 (a 1),.int .i64 (a 2),.int .i64 (a 3),.int .i64 (a 4),.int .i64 (a 5),.int .i64 (a 6),.int .i64 (a 7)],.agg #[.int .i64 (b 0),.int .i64 (b 1),.int .i64 (b 2),.int .i64 (b 3),.int .i64 (b 4),.int .i64 (b 5),.int .i64 (b 6),.int .i64 (b 7)]] w λe w'=>e = .returned (.int .i64 (DY a b))/\Grew w w':=by
 have hq:=λW=>DN a b W
 cases he:HA a b with
 | true=>
  rw [he] at hq
  go_enter Tryz.func74,Tryz.ntmps74
  go_wp2
  go_ret
  refine ⟨?_,((Grew.refl _).alloc _).alloc _⟩
  rw [DY,Jj 8 0 λi _ h=>Da.1 he i (by omega)]
  rfl
 | false=>
  rw [he] at hq
  have hne:¬∀i,i<8->a i=b i:=λh=>by rw [Da.2 h] at he;cases he
  clear he
  replace hne:=Ae hne
  have hA:Hid (Blk ((w.alloc (.cells #[.int .i64 (a 0),.int .i64 (a 1),.int .i64 (a 2),.int .i64 (a 3),.int .i64 (a 4),.int .i64 (a 5),.int .i64 (a 6),.int .i64 (a 7)] 55)).alloc (.cells #[.int .i64 (b 0),.int .i64 (b 1),.int .i64 (b 2),.int .i64 (b 3),.int .i64 (b 4),.int .i64 (b 5),.int .i64 (b 6),.int .i64 (b 7)] 55)) w.heap.size 55 (c8 a)):=(Blk.new _ _ _).alloc _
  have hB:Hid (Blk ((w.alloc (.cells #[.int .i64 (a 0),.int .i64 (a 1),.int .i64 (a 2),.int .i64 (a 3),.int .i64 (a 4),.int .i64 (a 5),.int .i64 (a 6),.int .i64 (a 7)] 55)).alloc (.cells #[.int .i64 (b 0),.int .i64 (b 1),.int .i64 (b 2),.int .i64 (b 3),.int .i64 (b 4),.int .i64 (b 5),.int .i64 (b 6),.int .i64 (b 7)] 55)) (w.heap.size+1) 55 (c8 b)):=CU _ _ (by simp)
  have hE:Hid (Grew w ((w.alloc (.cells #[.int .i64 (a 0),.int .i64 (a 1),.int .i64 (a 2),.int .i64 (a 3),.int .i64 (a 4),.int .i64 (a 5),.int .i64 (a 6),.int .i64 (a 7)] 55)).alloc (.cells #[.int .i64 (b 0),.int .i64 (b 1),.int .i64 (b 2),.int .i64 (b 3),.int .i64 (b 4),.int .i64 (b 5),.int .i64 (b 6),.int .i64 (b 7)] 55))):=((Grew.refl _).alloc _).alloc _
  go_enter Tryz.func74,Tryz.ntmps74
  go_wp2
  generalize ((w.alloc (.cells #[.int .i64 (a 0),.int .i64 (a 1),.int .i64 (a 2),.int .i64 (a 3),.int .i64 (a 4),.int .i64 (a 5),.int .i64 (a 6),.int .i64 (a 7)] 55)).alloc (.cells #[.int .i64 (b 0),.int .i64 (b 1),.int .i64 (b 2),.int .i64 (b 3),.int .i64 (b 4),.int .i64 (b 5),.int .i64 (b 6),.int .i64 (b 7)] 55))=w1 at *
  go_loopw [5] (λi wr=>∃k:Nat,k<8/\i = .int .i64 k/\Hid ((¬∀i,k<=i->i<8->a i=b i)/\DY a b=EB a b k (8-k)/\Blk wr w.heap.size 55 (c8 a)/\Blk wr (w.heap.size+1) 55 (c8 b)/\Grew w wr)) (λi _=>8-(intOf i).toNat)
  case atStart=>exact ⟨0,by omega,rfl,λh=>hne.out λi hi=>h i (by omega) hi,rfl,hA.out,hB.out,hE.out⟩
  case round=>
   obtain ⟨k,hk,rfl,hR⟩:=hrel
   have xa:=hR.out.2.2.1.at8 hk
   have xb:=hR.out.2.2.2.1.at8 hk
   have hs:Hid (EB a b k (8-k)=if a k=b k then EB a b (k+1) (8-(k+1)) else if a k<b k then -1 else 1):=by
    rw [show 8-k=8-(k+1)+1 by omega];rfl
   have hn:Hid (a k=b k->k+1<8/\¬∀i,k+1<=i->i<8->a i=b i):=λh=>by
    have h1:¬∀i,k+1<=i->i<8->a i=b i:=λh2=>hR.out.1 λi h3 h4=>by
     by_cases e:i=k
     .rw [e];exact h
     .exact h2 i (by omega) h4
    refine ⟨?_,h1⟩
    by_cases hk':k+1<8
    .exact hk'
    .exact absurd (λi h3 h4=>by omega) h1
   generalize a k=x at *
   generalize b k=y at *
   by_cases hxy:x=y
   .have hn':=hn.out hxy
    have hs':=hs.out
    rw [if_pos hxy] at hs'
    replace hs':=Ae (hR.out.2.1.trans hs')
    have hk1:=hn'.1
    replace hn':=Ae hn'.2
    go_wp2
    go_quiet (fail)
    go_wp2
    exact ⟨⟨k+1,hk1,by simp,hn'.out,hs'.out,hR.out.2.2.1,hR.out.2.2.2.1,hR.out.2.2.2.2.drewN _⟩,by simp [intOf];omega⟩
   .have hs':=hs.out
    rw [if_neg hxy] at hs'
    replace hs':=Ae (hR.out.2.1.trans hs')
    by_cases hlt:x<y
    .rw [if_pos hlt] at hs'
     go_wp2
     go_quiet (fail)
     go_wp2
     go_quiet (fail)
     go_wp2
     go_ret
     exact ⟨by rw [hs'.out];rfl,(hR.out.2.2.2.2.drewN _).drewN _⟩
    .rw [if_neg hlt] at hs'
     go_wp2
     go_quiet (fail)
     go_wp2
     go_quiet (fail)
     go_wp2
     go_ret
     exact ⟨by rw [hs'.out];rfl,(hR.out.2.2.2.2.drewN _).drewN _⟩
open Go.Sort
theorem Kz{α:Type}[Inhabited α](enc:α->List Value)(k:Nat)(w:World)(blk off m:Nat)(dk:Array α)(os:Array Obj){b:Nat}(hb:b<w.heap.size)(hne:b≠blk):(sortWorldK enc k w blk off m dk os).heap[b]? = w.heap[b]?:=by
 unfold sortWorldK
 rw [heap_grow_old _ _ (by rw [size_putRowK];exact hb)]
 unfold putRowK putRow mapBlock
 simp only [Array.getElem?_modify]
 rw [if_neg (show ¬blk=b from λh=>hne h.symm)]
 rfl
theorem Ky{α:Type}[Inhabited α](enc:α->List Value)(k:Nat)(w:World)(blk off m:Nat)(dk:Array α)(os:Array Obj){cur:Array Value}{t:TypeId}{fz:Nat×Nat}(hb:w.heap[blk]? = some (.cells cur t fz)):(sortWorldK enc k w blk off m dk os).heap[blk]? = some (.cells (putCells id off (flatK enc k dk) cur) t fz):=by
 have hlt:blk<w.heap.size:=AG hb
 unfold sortWorldK
 rw [heap_grow_old _ _ (by rw [size_putRowK];exact hlt)]
 unfold putRowK putRow mapBlock
 simp only [Array.getElem?_modify,if_pos rfl]
 show Option.map _ (w.heap[blk]?)=_
 rw [hb]
 rfl
structure G12 where
 (b b':Bool) (A A':Option Addr) (n c n' c':Nat) (t:Tm)
instance:Inhabited G12:=⟨⟨false,false,none,none,0,0,0,0,default⟩⟩
def G12.cells(x:G12):Array Value:=tmc x.b x.b' x.A x.A' x.n x.c x.n' x.c' x.t.m
def G12.ok(w:World)(x:G12):Prop:=IsRat w (.bool x.b) (.slice x.A x.n x.c) (.bool x.b') (.slice x.A' x.n' x.c') x.t.c
end Go.Proofs.YtialdhnijjnpaaaGreat
namespace Go.Proofs.YtialdhnijjnpaaaGreat
open Go.RowKit Go.Sort
theorem A5a{w:World}{x:G12}(h:x.ok w):TmV w x.cells x.t:=⟨x.b,x.b',x.A,x.A',x.n,x.c,x.n',x.c',rfl,h⟩
end Go.Proofs.YtialdhnijjnpaaaGreat
