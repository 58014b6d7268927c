/- Part 18 of the proof of hilbertPolynomials_holds. No condition. -/
import Derived.Test.YtialdhnijjnpaaaGreatQd17
set_option linter.unusedSimpArgs false
set_option linter.unusedVariables false
set_option maxRecDepth 100000
namespace Go.Proofs.YtialdhnijjnpaaaGreat
open Go.RowKit Go.Sort
def HQ (x : Nat→Int):List Value:=(c8 x).toList
def cfM (x y:Nat→Int):Int:=Gk x y
theorem Mp (a b:Nat→Int):lx a b = Gk a b:=by simp [lx,Fb,EP]
theorem Pz (x : Nat→Int) {j:Nat} (h:j<8):(HQ x)[j]! = .int .i64 (x j):=by
 rcases lt8 h with rfl | rfl | rfl | rfl | rfl | rfl | rfl | rfl <;> rfl
theorem XQ : SWO (ltOf cfM) where
 irrefl x:=by
  have:=Nv x
  rw [Mp] at this
  simp [ltOf,cfM,this]
 trans x y z h1 h2:=by
  have h1:Gk x y<0:=of_decide_eq_true h1
  have h2:Gk y z<0:=of_decide_eq_true h2
  show decide (Gk x z<0) = true
  rw [decide_eq_true_eq]
  rw [← Mp] at h1 h2 ⊢
  have:=Wf (a:=z) (b:=y) (c:=x) (by rw [Et];omega) (by rw [Et];omega)
  rw [Et]
  omega
 ntrans x y z h1 h2:=by
  have h1:¬ Gk x y<0:=of_decide_eq_false h1
  have h2:¬ Gk y z<0:=of_decide_eq_false h2
  show decide (Gk x z<0) = false
  rw [decide_eq_false_iff_not]
  have:=(HH (R:=[]) (a:=x) (b:=y) (c:=z) (by rw [show Fb [] x y = Gk x y from Mp x y];omega) (by rw [show Fb [] y z = Gk y z from Mp y z];omega)).1
  rw [show Fb [] x z = Gk x z from Mp x z] at this
  omega
theorem UA (g c:Nat) (d:Array (Nat→Int)) (w:World) (hH:HoldsK HQ 8 w g 0 d) (hgl:g<w.heap.size) (hn:d.size<4611686018427387904) :
  Calls Tryz.prog 124 #[.slice (some ⟨g,0,none⟩) d.size c,.func (.func 74) #[] #[]] w fun e w'=>e = .returned (.tuple #[])∧∃ d' m os,PermIn 0 d.size d d'∧SortedIn (ltOf cfM) 0 d.size d'∧w' = sortWorldK HQ 8 w g 0 m d' os:=by
 have eg:∀ args w,(callFunc 74 args).run Tryz.prog w = .ok (.enter 74 args) w:=enters_of Tryz.func74 (by kernel_rfl) rfl
 have hcmp:CmpLays Tryz.prog 74 #[] HQ 8 cfM g 0 d.size w:=fun m os dk hdk x y=>(TW x y _).mono fun e w' ⟨he,hg⟩=>⟨he,hg.grow⟩
 refine (AnyQ.slices_SortFunc Tryz.sortMono 8 Tryz.isAgg55 Tryz.sizeOf55 HQ (fun _=>rfl) (fun x v hv=>by simp [HQ,c8] at hv;rcases hv with rfl | rfl | rfl | rfl | rfl | rfl | rfl | rfl <;> rfl) cfM XQ 74 #[] g 0 c d w eg hcmp hH hgl hn).mono ?_
 rintro e w' ⟨rfl,d',q,os,hp,hs,rfl⟩
 exact ⟨rfl,d',q,os,hp,hs,rfl⟩
def Ep (l : Af):List D:=(l.map Ba).flatten
theorem Dl : ∀ l:Af,(Ep l).length = l.length*8
 | []=>rfl
 | a :: l=>by
  show (Ba a ++ Ep l).length = _
  rw [List.length_append,Dl l,List.length_cons,Nat.succ_mul,Nat.add_comm]
  rfl
theorem IX : ∀ (l:Af) {i j:Nat},i<l.length→j<8→BI (Ep l) (i*8+j) = ex (.int .i64 (Bn l i j))
 | a :: l,0,j,_,hj=>by
  show BI (Ba a ++ Ep l) (0*8+j) = _
  rw [Nat.zero_mul,Nat.zero_add]
  have:BI (Ba a ++ Ep l) j = BI (Ba a) j:=by
   simp only [BI]
   rw [List.getD_eq_getElem?_getD,List.getD_eq_getElem?_getD,List.getElem?_append_left (by rw [Cs];exact hj)]
  rw [this,Ir hj]
  rfl
 | a :: l,i+1,j,hi,hj=>by
  have ih:=IX l (i:=i) (j:=j) (by simpa using hi) hj
  show BI (Ba a ++ Ep l) ((i+1)*8+j) = _
  have:BI (Ba a ++ Ep l) ((i+1)*8+j) = BI (Ep l) (i*8+j):=by
   simp only [BI]
   rw [List.getD_eq_getElem?_getD,List.getD_eq_getElem?_getD,List.getElem?_append_right (by rw [Cs];omega),Cs,show (i+1)*8+j - 8 = i*8+j by omega]
  rw [this,ih]
  rfl
theorem Mb (l : Af) (g c:Nat) (hn:l.length≤1000000):Con Tryz.prog 124 [.d (sX g l.length c),.d (ex (.func (.func 74) #[] #[]))] [.obj (BD [⟨g,55,Ep l⟩])] []
  (fun r hp'=>∃ s:Af,s.Perm l∧(s.Pairwise fun a b=>lx a b≤0)∧r = .d Cu∧hp' = [.obj (BD [⟨g,55,Ep s⟩])]):=by
 refine ⟨Am Tryz.func124 (by kernel_rfl) (by kernel_rfl),fun s ρ vs hok hhp hsep hl hv=>?_⟩
 have e1:vs.getD 0 undef = .slice (some ⟨g,0,none⟩) l.length c:=hv 0 _ rfl
 have e2:vs.getD 1 undef = .func (.func 74) #[] #[]:=hv 1 _ rfl
 have evs:vs.toArray = #[.slice (some ⟨g,0,none⟩) l.length c,.func (.func 74) #[] #[]]:=by
  match vs,hl with
  | [a,b],_ =>
   have e1:a = _:=e1
   have e2:b = _:=e2
   rw [e1,e2]
 obtain ⟨h1,_⟩:=DG (hhp 0 _ rfl)
 obtain ⟨hT,hS,cs,hg,hlc,hcd⟩:=h1 _ List.mem_cons_self
 replace hS:∀ k,¬ s.S g k:=hS
 replace hg:s.w.heap[g]? = some (.cells cs 55 (0,0)):=hg
 replace hlc:(Ep l).length≤cs.size:=hlc
 replace hcd:∀ k,k<(Ep l).length→∃ u,cs[k]? = some u∧u.oneCell' = true∧(BI (Ep l) k).rel s u:=hcd
 rw [Dl] at hlc hcd
 have hcell:∀ i j,i<l.length→j<8→cs[i*8+j]? = some (.int .i64 (Bn l i j)):=fun i j hi hj=>by
  obtain ⟨u,g1,_,g3⟩:=hcd (i*8+j) (by omega)
  rw [IX l hi hj] at g3
  rw [g1]
  exact congrArg some g3
 have hlt:g<s.w.heap.size:=AB hg
 obtain ⟨d,hd⟩:∃ d:Array (Nat→Int),d = l.toArray:=⟨_,rfl⟩
 have hds:d.size = l.length:=by rw [hd];simp
 have hdg:∀ i,i<l.length→d[i]! = Bn l i:=fun i hi=>by
  rw [getElem!_pos d i (by omega),Bn,List.getD_eq_getElem?_getD,List.getElem?_eq_getElem hi]
  simp [hd]
 have hH:HoldsK HQ 8 s.w g 0 d:=by
  intro q hq
  rw [size_flatK,hds] at hq
  rw [get_flatK _ _ _ _ (by rw [hds];exact hq),hdg _ (by omega),Pz _ (by omega),Nat.zero_add]
  have:=hcell (q / 8) (q % 8) (by omega) (by omega)
  rw [show q / 8*8+q % 8 = q by omega] at this
  exact ⟨(AQ hg).trans this,Blk.frozen hg q⟩
 have hcon:=UA g c d s.w hH hlt (by omega)
 rw [hds] at hcon
 rw [evs]
 refine hcon.mono ?_
 rintro e w' ⟨rfl,d',m,os,hp,hs,rfl⟩
 have hds':d'.size = l.length:=hp.1.trans hds
 have hnew:=Jz HQ 8 s.w g 0 m d' os hg
 have hfar:∀ b,b<s.w.heap.size→b ≠ g→(sortWorldK HQ 8 s.w g 0 m d' os).heap[b]? = s.w.heap[b]? := fun b hb hne=>JA HQ 8 s.w g 0 m d' os hb hne
 have hsz:s.w.heap.size≤(sortWorldK HQ 8 s.w g 0 m d' os).heap.size:=size_sortWorldK_c HQ 8 s.w g 0 m d' os
 let s':GS:=⟨fun b k=>s.S b k∨(s.w.heap.size≤b∧b<(sortWorldK HQ 8 s.w g 0 m d' os).heap.size),s.tag,sortWorldK HQ 8 s.w g 0 m d' os⟩
 have hc:GS.Chg s s':=⟨hsz,fun _ _ h=>.inl h,fun b cs' T fz hb=>by
  by_cases e:b = g
  ·subst e
   rw [hg] at hb
   cases hb
   exact ⟨_,_,hnew,fun k hk=>absurd hk (hS k)⟩
  ·exact ⟨cs',fz,(hfar b (AB hb) e).trans hb,fun _ _=>rfl⟩⟩
 have hok':s'.Ok:=⟨fun b k hb=>hb.elim (fun h=>Nat.lt_of_lt_of_le (hok.lt b k h) hsz) fun h=>h.2,fun b k ⟨c2,fz,hb⟩=>by
  replace hb:(sortWorldK HQ 8 s.w g 0 m d' os).heap[b]? = some (.cells c2 136 fz):=hb
  rcases Nat.lt_or_ge b s.w.heap.size with h1 | h1
  ·by_cases e:b = g
   ·rw [e,hnew] at hb
    exact absurd (Obj.cells.inj (Option.some.inj hb)).2.1 (by decide)
   ·exact .inl (hok.safe b k ⟨c2,fz,(hfar b h1 e).symm.trans hb⟩)
  ·exact .inr ⟨h1,AB hb⟩⟩
 have e3:(d'.extract 0 l.length).toList = d'.toList:=by
  rw [← hds']
  simp
 have e4:(d.extract 0 l.length).toList = l:=by
  rw [← hds,hd]
  simp
 have hperm:d'.toList.Perm l:=by
  have:=hp.2.2
  rw [e3,e4] at this
  exact this
 refine ⟨_,rfl,s',ρ,.d Cu,[.obj (BD [⟨g,55,Ep d'.toList⟩])],⟨d'.toList,hperm,?_,rfl,rfl⟩,rfl,trivial,⟨⟨rfl,rfl,rfl,fun k hk hm=>hfar k hk fun e=>hm ⟨0,_,rfl,⟨_,List.mem_cons_self,e.symm⟩⟩,hc,fun b k hb _ hk=>hk.elim (fun h=>h) fun h=>absurd hb (by omega),fun _ _=>rfl,fun _=>hok'⟩,hok',fun i o hi=>?_,fun i j o o' hij hi hj=>?_,fun i o b hi hb=>?_,fun _ _ _=>rfl,Nat.le_refl _⟩⟩
 ·rw [List.pairwise_iff_getElem]
  intro i j h1 h2 hij
  have:=hs i j (Nat.zero_le _) hij (by rw [Array.length_toList] at h2;omega)
  have this:¬ Gk (d'[j]!) (d'[i]!)<0:=of_decide_eq_false this
  rw [Array.length_toList] at h1 h2
  rw [getElem!_pos d' i h1,getElem!_pos d' j h2] at this
  rw [← Mp,Et] at this
  simp only [Array.getElem_toList]
  omega
 ·match i,hi with
  | 0,hi =>
   cases hi
   refine ⟨fun x hx=>?_,by simp⟩
   rw [List.mem_singleton.1 hx]
   refine ⟨(by decide:(55:TypeId) ≠ 136),fun k hk=>hk.elim (hS k) fun h=>absurd hlt (by show ¬ g<_;have:s.w.heap.size≤g:=h.1;omega),_,hnew,?_,fun k hk=>?_⟩
   ·show (Ep d'.toList).length≤_
    rw [Dl,Array.length_toList,hds']
    simpa [putCells] using hlc
   ·have hk:k<(Ep d'.toList).length:=hk
    rw [Dl,Array.length_toList,hds'] at hk
    have hkd:k / 8<l.length:=by omega
    have e5:BI (Ep d'.toList) k = ex (.int .i64 (Bn d'.toList (k / 8) (k % 8))):=by
     have:=IX d'.toList (i:=k / 8) (j:=k % 8) (by rw [Array.length_toList];omega) (by omega)
     rwa [show k / 8*8+k % 8 = k by omega] at this
    refine ⟨.int .i64 (Bn d'.toList (k / 8) (k % 8)),?_,rfl,by show (BI (Ep d'.toList) k).rel s' _;rw [e5];rfl⟩
    have h6:k<cs.size:=by omega
    unfold putCells
    rw [Array.getElem?_mapIdx,Array.getElem?_eq_getElem h6]
    simp only [Option.map_some,size_flatK,hds']
    rw [if_pos (by omega),Nat.sub_zero,get_flatK _ _ _ _ (by omega),Pz _ (by omega)]
    congr 2
    rw [getElem!_pos d' (k / 8) (by omega),Bn,List.getD_eq_getElem?_getD,List.getElem?_eq_getElem (by rw [Array.length_toList];omega)]
    simp
 ·match i,j,hi,hj with
  | 0,0,_,_=>exact absurd rfl hij
 ·match i,hi with
  | 0,hi =>
   cases hi
   obtain ⟨x,hx,e⟩:=hb
   rw [List.mem_singleton.1 hx] at e
   exact .inl ⟨0,_,rfl,⟨_,List.mem_cons_self,e⟩⟩
def OX (a b:Nat→Int) (k j:Nat):Int:=if j<k then min (a j) (b j) else a j
theorem TU (a b:Nat→Int) (k:Nat):Ij (OX a b k) k (min (a k) (b k)) = OX a b (k+1):=by
 funext j
 simp only [Ij,OX]
 rcases Nat.lt_trichotomy j k with h | h | h
 ·rw [if_neg (by omega),if_pos h,if_pos (by omega)]
 ·subst h;simp
 ·rw [if_neg (by omega),if_neg (by omega),if_neg (by omega)]
theorem VV (a b:Nat→Int) (k:Nat):OX a b k k = a k:=if_neg (Nat.lt_irrefl k)
def VX (a b:Nat→Int):Nat→Int:=fun j=>min (a j) (b j)
def Om (a b:Nat→Int) (k j:Nat):Int:=if j<k then a j - b j else a j
theorem TH (a b:Nat→Int) (k:Nat):Ij (Om a b k) k (a k - b k) = Om a b (k+1):=by
 funext j
 simp only [Ij,Om]
 rcases Nat.lt_trichotomy j k with h | h | h
 ·rw [if_neg (by omega),if_pos h,if_pos (by omega)]
 ·subst h;simp
 ·rw [if_neg (by omega),if_neg (by omega),if_neg (by omega)]
theorem Vr (a b:Nat→Int) (k:Nat):Om a b k k = a k:=if_neg (Nat.lt_irrefl k)
def A2l (a b:Nat→Int):Nat→Int:=fun j=>a j - b j
theorem Wd (a b:Nat→Int):Abs Tryz.prog 92 [BO (Ba a),BO (Ba b)] (BO (Ba (VX a b))):=by
 refine Ab Tryz.func92 fun s0=>?_
 rw [Tryz.ntmps92]
 apply Y1;refine Bx ?_;refine Bx ?_;refine Al ?_;refine Y0<|Ac<|Y1<|Wm<|Y0<|AWp.block ?_
 refine AT (fun mz σ=>∃ k,k≤8∧mz = 8 - k∧σ = ⟨[(2,.ptr 0 0),(3,.ptr 1 0),(4,.ptr 2 0),(6,.d (ex (.int .i64 (k:Nat))))],[.var 55 ((Ba (OX a b k)).map .d),.var 55 ((Ba b).map .d),.var 55 ((Ba fun _=>0).map .d)]⟩) ?le ⟨0,by omega,rfl,rfl⟩ ?round
 case le=>exact Ao (by exact Yp<|Yp<|Yp<|Yd<|FrLe.nil) (by exact Yv<|Yv<|Yv<|HpLe.nil)
 case round =>
  rintro mz _ ⟨k,hk,rfl,rfl⟩
  by_cases hlt:k<8
  ·have h1:=VV a b k
   apply Y1;refine Wq AA ?_;refine Y0<|Ac ?_;refine Ct ?_;refine Ys<|Ac<|AWp.block<|Y1<|Wm<|Wa<|Y0 ?_
   refine Dr [[],[],[(10,1)],[(11,2)],[],[(13,4)],[(14,5)],[(12,3),(15,6)],[(9,0)]] [[],[],[1],[1,2],[],[4],[4,5],[1,2,3,4,5,6],[0,1,2,3,4,5,6,7]] ?_
   refine Xq Ar ?_;refine Xq Ar ?_;refine Xq Dz ?_;refine Xq DU ?_;refine Xq Ar ?_;refine Xq Dz ?_;refine Xq DU ?_;refine Xq Rx ?_;refine Xq Dz ?_;refine ⟨_,rfl,?_⟩
   (refine GZ (ao rfl) (ao rfl) rfl (Ae rfl) (by first | exact DK rfl | exact One.sl | exact FH) (SetAt.mon (by first | omega | (simp;omega))) rfl ?_);apply AWl.nil;apply As;refine Yn<|AWp.region ?_;refine Wq Bd ?_;refine Wm ?_;apply AWl.nil
   refine ALoop.next (8 - (k+1)) (by omega) ⟨k+1,by omega,rfl,rfl⟩ ?_
   exact Ao (by exact Yp<|Yp<|Yp<|Yd<|FrLe.nil) (by exact HpLe.cons (DJ (by rw [h1,TU]))<|Yv<|Yv<|HpLe.nil)
  ·obtain rfl : k = 8 := by omega
   apply Y1;refine Wq At ?_;refine Y0<|Ac ?_;refine Cf ?_;apply AP;apply AF;apply AG;apply AH;refine Yn<|Y1 ?_;refine Wq AN ?_;refine Sf ?_;apply Y0;apply Aw
   exact BQ (Rets.of1 (ResV.cell rfl rfl (Ae rfl) rfl rfl rfl) (D.le.refl _))
theorem Wc (a b:Nat→Int) (h:Dv b a) (hb:In8 b 0 100000) (ha:In8 a 0 100000):Abs Tryz.prog 91 [BO (Ba a),BO (Ba b)] (DM [BO (Ba (A2l a b)),ex (.bool true)]):=by
 refine Ab Tryz.func91 fun s0=>?_
 rw [Tryz.ntmps91]
 apply Y1;refine Bx ?_;refine Bx ?_;refine Al ?_;refine Wa<|Y0<|Ac<|Y1 ?_;refine Wq AN ?_;refine Wq AN ?_;refine Wq (Ai (Pb b a h)) ?_;refine Wq Ci ?_;apply Y0;refine Cf ?_;refine Ys<|Ac<|Y1<|Wm<|Y0<|AWp.block ?_
 refine AT (fun mz σ=>∃ k,k≤8∧mz = 8 - k∧σ = ⟨[(2,.ptr 0 0),(3,.ptr 1 0),(4,.ptr 2 0),(12,.d (ex (.int .i64 (k:Nat))))],[.var 55 ((Ba (Om a b k)).map .d),.var 55 ((Ba b).map .d),.var 55 ((Ba fun _=>0).map .d)]⟩) ?le ⟨0,by omega,rfl,rfl⟩ ?round
 case le=>exact Ao (by exact Yp<|Yp<|Yp<|Yd<|FrLe.nil) (by exact Yv<|Yv<|Yv<|HpLe.nil)
 case round =>
  rintro mz _ ⟨k,hk,rfl,rfl⟩
  by_cases hlt:k<8
  ·have h1:=Vr a b k
   have g1:=ha k hlt
   have g2:=hb k hlt
   apply Y1;refine Wq AA ?_;refine Y0<|Ac ?_;refine Ct ?_;refine Ys<|Ac<|AWp.block<|Y1<|Wm<|Wa<|Y0 ?_
   refine Dr [[],[(15,0)],[(16,1)],[],[(18,3)],[(19,4)],[(17,2),(20,5)],[(15,0)]] [[],[0],[0,1],[],[3],[3,4],[0,1,2,3,4,5],[0,1,2,3,4,5,6]] ?_
   refine Xq Ar ?_;refine Xq Dz ?_;refine Xq DU ?_;refine Xq Ar ?_;refine Xq Dz ?_;refine Xq DU ?_;refine Xq Gr ?_;refine Xq Dz ?_;refine ⟨_,rfl,?_⟩
   (refine GZ (ao rfl) (ao rfl) rfl (Ae rfl) (by first | exact DK rfl | exact One.sl | exact FH) (SetAt.mon (by first | omega | (simp;omega))) rfl ?_);apply AWl.nil;apply As;refine Yn<|AWp.region ?_;refine Wq Bd ?_;refine Wm ?_;apply AWl.nil
   refine ALoop.next (8 - (k+1)) (by omega) ⟨k+1,by omega,rfl,rfl⟩ ?_
   exact Ao (by exact Yp<|Yp<|Yp<|Yd<|FrLe.nil) (by exact HpLe.cons (DJ (by rw [h1,TH]))<|Yv<|Yv<|HpLe.nil)
  ·obtain rfl : k = 8 := by omega
   apply Y1;refine Wq At ?_;refine Y0<|Ac ?_;refine Cf ?_;apply AP;apply AF;apply AG;apply AH;refine Yn<|Y1 ?_;refine Wq AN ?_;refine Sf ?_;refine Wa<|Y0 ?_;apply Aw
   exact BQ (CW (ResV.cell rfl rfl (Ae rfl) rfl rfl rfl) (ResV.tmp rfl rfl) (Cy (D.le.refl _) (D.le.refl _)))
theorem Ym (a b:Nat→Int):Dv (VX a b) a:=fun j _=>Int.min_le_left _ _
structure PureQ (P : Program) (hp:List Ow) (o:Oper) (arg:Operand→AV) (r:AV):Prop where
 run:∀ (base:Nat) (s:GS) (ρ:Nat→Value) (ev:Operand→Value),s.Ok→base≤s.w.heap.size→HpOk base ρ s hp→(∀ x,x∈o.op.operands→AVr hp.length ρ s (arg x) (ev x))→∃ v,(∀ w,(execOp ev o).run P w = .ok (.value v) w)∧AVr hp.length ρ s r v
section
variable {P : Program} {hp:List Ow} {o:Oper} {arg:Operand→AV}
theorem PureQ.move {x : Operand} {r:AV} (hop:o.op = .move x) (hx:arg x = r):PureQ P hp o arg r:=by
 subst hx
 exact ⟨fun base s ρ ev hok hbs hhp h=>⟨ev x,fun w=>by simp [execOp,hop],h x (by rw [hop];simp [Op.operands])⟩⟩
theorem PureQ.slice {x : Operand} {t:TypeId} {e n b n' b' T sz:Nat} {d:TypeDesc} {z z':Value} {lo hi:Option Operand} {rows:List (List D)} {i j:Int} (hop:o.op = .slice t x lo hi none) (hx:Em hp (arg x) = some (slD T sz rows)) (ht:Tab P t (.slice e) n b z) (he:Tab P e d n' b' z') (hsz:n' = sz) (hlo:(∃ y,lo = some y∧arg y = .d (ex (.int .i64 i)))∨(lo = none∧i = 0)) (hhi:(∃ y,hi = some y∧arg y = .d (ex (.int .i64 j)))∨(hi = none∧j = rows.length)) (h0:0≤i) (hij:i≤j) (hj:j≤rows.length):PureQ P hp o arg (.d (slD T sz ((rows.take j.toNat).drop i.toNat))):=by
 refine ⟨fun base s ρ ev hok hbs hhp h=>?_⟩
 obtain ⟨A,c,e1,h1,h2,h3⟩:=BX hhp (h x (by rw [hop];simp [Op.operands])) hx
 subst hsz
 obtain ⟨i,rfl⟩:=Int.eq_ofNat_of_zero_le h0
 obtain ⟨j,rfl⟩:=Int.eq_ofNat_of_zero_le (Int.le_trans h0 hij)
 have hij':i≤j:=by omega
 have hj':j≤rows.length:=by omega
 have elo:∃ lo',lo.map ev = lo'∧((lo' = some (.int .i64 i))∨(lo' = none∧i = 0)):=by
  rcases hlo with ⟨y,rfl,hy⟩ | ⟨rfl,hi0⟩
  ·have h5 := h y (by rw [hop]; simp [Op.operands])
   rw [hy] at h5
   exact ⟨_,rfl,.inl (by show some (ev y) = _;rw [show ev y = _ from h5])⟩
  ·exact ⟨_,rfl,.inr ⟨rfl,by omega⟩⟩
 have ehi:∃ hi',hi.map ev = hi'∧((hi' = some (.int .i64 j))∨(hi' = none∧j = rows.length)):=by
  rcases hhi with ⟨y,rfl,hy⟩ | ⟨rfl,hi0⟩
  ·have h5 := h y (by rw [hop]; simp [Op.operands])
   rw [hy] at h5
   exact ⟨_,rfl,.inl (by show some (ev y) = _;rw [show ev y = _ from h5])⟩
  ·exact ⟨_,rfl,.inr ⟨rfl,by omega⟩⟩
 obtain ⟨lo',l1,l2⟩:=elo
 obtain ⟨hi',r1,r2⟩:=ehi
 have hjc:(j:Int)≤c:=by omega
 have hic:(i:Int)≤j:=by omega
 have hb:∀ w,(Instr.sliceBounds true rows.length c lo' hi' none).run P w = .ok (i,j,c) w:=fun w=>by
  rcases l2 with rfl | ⟨rfl,rfl⟩ <;> rcases r2 with rfl | ⟨rfl,rfl⟩ <;> simp [Instr.sliceBounds,Instr.sliceBound,asIntOf,hjc,hic,hij',hj',h1]
  all_goals first | omega | simp [hij',hj',h1] | skip
 have hrun:∀ w,(execOp ev o).run P w = .ok (.value (.slice (if c = i then A else A.map (·.add (i*n'))) (j - i) (c - i))) w:=fun w=>by
  simp only [execOp,hop,l1,r1,e1,Option.map_none,Instr.sliceAt,Sem.run_bind,run_underlying ht.und,Result.andThen_ok,Instr.slice,hb,he.run_size,Sem.run_pure]
 have hlen:((rows.take (j:Int).toNat).drop (i:Int).toNat).length = j - i:=by simp;omega
 refine ⟨_,hrun,(if c = i then A else A.map (·.add (i*n'))),c - i,by rw [hlen],by rw [hlen];omega,by omega,fun hp=>?_⟩
 rw [hlen] at hp
 obtain ⟨g,p,rfl,h5⟩:=h3 (by omega)
 refine ⟨g,p+i*n',?_,fun k hk=>?_⟩
 ·rw [if_neg (by omega)]
  simp [Addr.add_lit]
 ·rw [hlen] at hk
  rw [show (j:Int).toNat = j from rfl,show (i:Int).toNat = i from rfl]
  rw [Mh,Mg (by omega)]
  have:=h5 (i+k) (by omega)
  rw [Nat.add_mul,← Nat.add_assoc] at this
  exact this
theorem Qp {α : Type} {x y:Operand} {t:TypeId} {e n b n' b' T sz i:Nat} {d:TypeDesc} {z z':Value} {f:α→List D} {l:List α} (hop:o.op = .slice t x (some y) none none) (hx:Em hp (arg x) = some (slD T sz (l.map f))) (hy:arg y = .d (ex (.int .i64 (i:Nat)))) (ht:Tab P t (.slice e) n b z) (he:Tab P e d n' b' z') (hsz:n' = sz) (hi:i≤l.length):PureQ P hp o arg (.d (slD T sz ((l.drop i).map f))):=by
 have h:=PureQ.slice (P:=P) (hp:=hp) (i:=(i:Nat)) (j:=((l.map f).length:Nat)) hop hx ht he hsz (.inl ⟨y,rfl,hy⟩) (.inr ⟨rfl,rfl⟩) (by omega) (by simp;omega) (by omega)
 have e1:((l.map f).take (((l.map f).length:Nat):Int).toNat).drop ((i:Nat):Int).toNat = (l.drop i).map f:=by
  rw [show (((l.map f).length:Nat):Int).toNat = (l.map f).length from rfl,List.take_length,List.map_drop]
  rfl
 rwa [e1] at h
end
structure AWy (P : Program) (s0:An) (n:Nat) (ops:Array Oper) (Q:Exit→AS→Prop) (fuel:Nat) (listed:Array Bool) (σ:AS):Prop where
 run:∀ a w,St s0 n σ a w→wpAny P .any ops (Fp s0 n (OnlyN Q)) fuel listed a w
def Oz (ops : Array Oper):Array Bool→List Nat→Bool
 | listed,[]=>Region.ready .any ops listed == []
 | listed,j :: js=>Region.ready .any ops listed == [j] && Oz ops (listed.setIfInBounds j true) js
def NJ (ops : Array Oper) (js:List Nat):Bool:=js.all fun j=>(ops[j]?).isSome
def LH (ops : Array Oper):List Nat→List Oper
 | []=>[]
 | j :: js=>match ops[j]? with
  | some o=>o :: LH ops js
  | none=>[]
theorem Il {ops : Array Oper}:∀ {js:List Nat},NJ ops js = true→js.map (fun j=>ops[j]?) = (LH ops js).map some
 | [],_=>rfl
 | j :: js,h=>by
  simp only [NJ,List.all_cons,Bool.and_eq_true] at h
  obtain ⟨o,ho⟩:=Option.isSome_iff_exists.1 h.1
  have ih:=Il (js:=js) h.2
  simp only [LH,ho,List.map_cons,ih]
section
variable {P : Program} {s0:An} {n:Nat} {ops:Array Oper} {Q:Exit→AS→Prop} {fr:List (Nat × AV)} {hp:List Ow}
theorem AWp.any {id : Nat} {l:List Oper} {σ:AS} (hm:P.follows .mixedOrders = true) (h:AWy P s0 n l.toArray Q l.toArray.size (Array.replicate l.toArray.size false) σ):AWp P s0 n (.region id l.toArray true) Q σ:=by
 refine ⟨fun a w ⟨s,ρ,hw,hst⟩=>?_⟩
 subst hw
 have hst':=hst.put (Lx s) (dst:=none) (fun d hd=>by cases hd) (v:=undef) (r:=.d Cu) trivial
 have h1:=h.run a s.w.drew ⟨s.dr,ρ,rfl,hst'⟩
 exact wp_mono (wp_region_any hm h1) fun ex a' w' ⟨σ',hq,hs⟩=>by
  obtain ⟨rfl,hq⟩:=hq
  exact ⟨σ',hq,hs⟩
theorem EI {fuel : Nat} {listed:Array Bool} (i:Nat) {o:Oper} {d:Nat} {r:AV} (hi:ops[i]? = some o) (hg:o.guard = none) (hdst:o.dst = some d) (hs:Region.noSelect ops = true) (hf:Region.free .any ops listed i = true) (hr:(Region.ready .any ops listed).contains i = true) (hd:Nat.blt d n = true) (hq:PureQ P hp o (AS.arg ⟨fr,hp⟩) r) (h:AWy P s0 n ops Q fuel (listed.setIfInBounds i true) ⟨(d,r) :: fr,hp⟩):AWy P s0 n ops Q (fuel+1) listed ⟨fr,hp⟩:=by
 refine ⟨fun a w ⟨s,ρ,hw,hst⟩=>?_⟩
 subst hw
 obtain ⟨v,h1,h2⟩:=hq.run 0 s ρ a.eval hst.ok (Nat.zero_le _) hst.hp fun x _=>hst.arg x
 have hst':=hst.put (GS.Le.refl s) (dst:=some d) (fun d' hd'=>by cases hd';simpa [Nat.blt_eq] using hd) h2
 refine wpAny_take hi hs hf hr (fun c a w h=>?_) (.inl ⟨by simp [Region.wanted,hg],h1⟩) ?_
 ·obtain ⟨_,h,_⟩:=h
  have:=h.how
  cases this
 ·rw [hdst]
  exact h.run _ _ ⟨s,ρ,rfl,hst'⟩
theorem Ik {ops : Array Oper} {Q:Exit→Act→World→Prop}:∀ (js:List Nat) (L:List Oper) (listed:Array Bool) (a:Act) (w:World),Oz ops listed js = true→js.map (fun j=>ops[j]?) = L.map some→wpList P ops Q L a w→wpAny P .any ops Q js.length listed a w
 | [],[],listed,a,w,hs,_,h=>⟨by simpa [Oz] using hs,h⟩
 | [],_ :: _,_,_,_,_,hl,_=>by simp at hl
 | _ :: _,[],_,_,_,_,hl,_=>by simp at hl
 | j :: js,o :: L,listed,a,w,hs,hl,h=>by
  simp only [Oz,Bool.and_eq_true,beq_iff_eq] at hs
  simp only [List.map_cons,List.cons.injEq] at hl
  refine wpAny_all hs.1 (by simp) fun i hi=>?_
  obtain rfl:i = j:=by simpa using hi
  unfold wpList at h
  unfold wpOp
  rw [hl.1]
  simp only
  split
  ·rename_i hw
   rw [if_pos hw] at h
   exact h.imp (Oper.wp_mono fun a w h=>Ik js L _ a w hs.2 hl.2 h) fun h=>h
  ·rename_i hw
   rw [if_neg hw] at h
   exact Ik js L _ _ w hs.2 hl.2 h
theorem AWy.seq {fuel : Nat} {listed:Array Bool} {σ:AS} (js:List Nat) (hs:Oz ops listed js = true) (hl:NJ ops js = true) (hf:fuel = js.length) (h:AWl P s0 n ops (OnlyN Q) (LH ops js) σ):AWy P s0 n ops Q fuel listed σ:=by
 subst hf
 exact ⟨fun a w hst=>Ik js _ listed a w hs (Il hl) (h.run a w hst)⟩
end
def GM (b : Bool) (l:List Nat):Bool:=if l.length = 0 then !b else (((l.getD (l.length - 1) 0:Nat):Int) != 0)
theorem Jv (b : Bool) (l:List Nat) (hn:l.length≤1000000000):Abs Tryz.prog 127 [BO [ex (.bool b),wD l]] (ex (.bool (GM b l))):=by
 refine Ab Tryz.func127 fun s0=>?_
 rw [Tryz.ntmps127]
 apply Y1;refine Bx ?_;refine Wa<|Y0<|Y1 ?_;refine Wq BF ?_;refine Wq Bb ?_;refine Wq Ze ?_;refine Wa<|Y0<|Ac<|Y1<|Wm ?_;refine Wq Lp ?_;apply Y0
 by_cases h0:l.length = 0
 ·refine Qy (ao rfl) (decide_eq_true (by omega)) ?_; refine Ac<|AWp.region ?_; refine Wq BF ?_; refine Wq Bb ?_; refine Wq Ci ?_; refine Wa ?_; apply AWl.nil; apply Yn; apply Aw; apply AR
  exact BQ (Rets.of1 (ResV.tmp rfl rfl) (Fm (by rw [GM,if_pos h0])))
 ·refine QA (ao rfl) (decide_eq_false (by omega)) ?_; apply BJ; refine Yn<|Ac<|AWp.region ?_; refine Wq BF ?_; refine Wq Bb ?_; refine Wm ?_; refine Wq DT ?_; refine Wq UK ?_; refine Wq DV ?_; refine Wq Lp ?_; refine Wa ?_; apply AWl.nil; apply Yn; apply Aw
  exact BQ (Rets.of1 (ResV.tmp rfl rfl) (Fm (by rw [GM,if_neg h0])))
theorem JZ : ∀ {l:List Nat},l ≠ []→l.getD (l.length - 1) 0 ≠ 0→CJ l = l
 | [],h,_=>absurd rfl h
 | [x],_,h=>by
  have h:x ≠ 0:=h
  simp [CJ,h]
 | x :: y :: l,_,h=>by
  have h':(y :: l).getD ((y :: l).length - 1) 0 ≠ 0:=by
   have e:(x :: y :: l).getD ((x :: y :: l).length - 1) 0 = (y :: l).getD ((y :: l).length - 1) 0:=by simp
   rwa [e] at h
  have ih:=JZ (l:=y :: l) (by simp) h'
  rw [CJ,ih]
theorem Mt {b : Bool} {l:List Nat} (hs:Be l) (h:GM b l = true):∃ z:Int,b = decide (z<0)∧l = Ah z.natAbs:=by
 unfold GM at h
 split at h
 ·rename_i h0
  obtain rfl:=List.eq_nil_of_length_eq_zero h0
  exact ⟨0,by simpa using h,by simp [Bf]⟩
 ·rename_i h0
  have h1:l ≠ []:=fun e=>h0 (by rw [e];rfl)
  have h2:l.getD (l.length - 1) 0 ≠ 0:=fun e=>by rw [e] at h;simp at h
  have h3:l = Ah (val l):=by rw [← AE hs,JZ h1 h2]
  have h4:val l ≠ 0:=fun e=>by rw [e,Bf] at h3;exact h1 h3
  cases b with
  | true=>exact ⟨-(val l:Int),by simp;omega,by simpa using h3⟩
  | false=>exact ⟨(val l:Int),by simp,by simpa using h3⟩
theorem Ms (z : Int):GM (decide (z<0)) (Ah z.natAbs) = true:=by
 unfold GM
 split
 ·rename_i h
  have:=AL.1 h
  have:z = 0:=by omega
  subst this
  rfl
 ·rename_i h
  have hd:(Ah z.natAbs).getD ((Ah z.natAbs).length - 1) 0 ≠ 0:=by
   have key:∀ n,n ≠ 0→(Ah n).getD ((Ah n).length - 1) 0 ≠ 0:=by
    intro n
    induction n using Nat.strongRecOn with
    | _ n ih =>
     intro hn
     rw [Dy hn]
     by_cases h0:n / BB = 0
     ·rw [h0,Bf]
      have:n % BB = n:=Nat.mod_eq_of_lt (by have:=Nat.div_eq_zero_iff.1 h0;rcases this with h | h;exact absurd h (by decide);exact h)
      simpa [this] using hn
     ·have := ih (n / BB) (Nat.div_lt_self (Nat.pos_of_ne_zero hn) (by decide)) h0
      have hne:(Ah (n / BB)).length ≠ 0:=fun e=>h0 (AL.1 e)
      obtain ⟨m,hm⟩:∃ m,(Ah (n / BB)).length = m+1:=⟨(Ah (n / BB)).length - 1,by omega⟩
      rw [hm] at this
      simp only [List.length_cons,hm,Nat.add_sub_cancel,List.getD_cons_succ] at this ⊢
      exact this
   exact key _ fun e=>h (AL.2 e)
  simp only [bne_iff_ne,ne_eq]
  omega
def QOk (b : Bool) (l:List Nat) (b':Bool) (l':List Nat):Prop:=∃ q:Rat,b = decide (q.num<0)∧l = Ah q.num.natAbs∧b' = decide ((q.den:Int)<0)∧l' = Ah (q.den:Int).natAbs
theorem SW {x y:Int} (h:decide (x<0) = decide (y<0)) (h':Ah x.natAbs = Ah y.natAbs):x = y:=by
 have h1:x.natAbs = y.natAbs:=by rw [← Ag x.natAbs,h',Ag]
 have h2:(x<0)↔(y<0):=by simpa using h
 omega
theorem Tn (x y:Int):QOk (decide (x<0)) (Ah x.natAbs) (decide (y<0)) (Ah y.natAbs)↔0<y∧Nat.gcd x.natAbs y.natAbs = 1:=by
 constructor
 ·rintro ⟨q,h1,h2,h3,h4⟩
  have e1:=SW h1 h2
  have e2:=SW h3 h4
  subst e1;subst e2
  exact ⟨by have:=q.den_pos;omega,q.reduced⟩
 ·rintro ⟨h1,h2⟩
  refine ⟨⟨x,y.natAbs,by omega,h2⟩,rfl,rfl,?_,?_⟩
  ·show decide (y<0) = decide (((y.natAbs:Nat):Int)<0)
   rw [decide_eq_false (show ¬ y<0 by omega),decide_eq_false (by omega)]
  ·show Ah y.natAbs = Ah ((y.natAbs:Nat):Int).natAbs
   rfl
theorem Xt {b : Bool} {l:List Nat} {b':Bool} {l':List Nat} (h:QOk b l b' l'):GM b l = true∧GM b' l' = true:=by
 obtain ⟨q,rfl,rfl,rfl,rfl⟩:=h
 exact ⟨Ms _,Ms _⟩
def A2k (b : Bool) (l:List Nat) (b':Bool) (l':List Nat):List D:=[ex (.bool b),wD l,ex (.bool b'),wD l']
def A1F (b : Bool) (m:Nat) (b':Bool) (m':Nat):Int:=match b,b' with
 | true,true=>CY m' m
 | true,false=>-1
 | false,true=>1
 | false,false=>CY m m'
theorem UC (b b':Bool) (m m':Nat):Abs Tryz.prog 129 [BO [ex (.bool b),wD (Ah m)],BO [ex (.bool b'),wD (Ah m')]] (ex (.int .i64 (A1F b m b' m'))):=by
 cases b <;> cases b'
 ·refine Ab Tryz.func129 fun s0 => ?_
  rw [Tryz.ntmps129]
  apply Y1;refine Bx ?_;refine Bx ?_;refine Wa<|Y0<|Ac<|Y1 ?_;refine Wq BF ?_;refine Wq Bb ?_;refine Wm ?_;refine Ws ?_;refine Ws ?_;refine Ws ?_;refine Wq Bz ?_;apply Y0;refine Cf ?_;refine Ys<|Ac<|Y1 ?_;refine Wq BF ?_;refine Wq Bb ?_;refine Wq Ci ?_;refine Wm ?_;refine Wg BF ?_;refine Wg Bb ?_;refine Wq AW ?_;apply Y0;refine Cf ?_;refine Ys<|Ac<|Y1 ?_;refine Wq BF ?_;refine Wq Bb ?_;apply Y0;refine Cf ?_;refine Ys<|Y1 ?_;refine Wq BF ?_;refine Wq Bb ?_;refine Wq BF ?_;refine Wq Bb ?_;refine Wq (Ai (Hx m m')) ?_;refine Wa<|Y0 ?_;apply Aw
  exact Yf
 ·refine Ab Tryz.func129 fun s0 => ?_
  rw [Tryz.ntmps129]
  apply Y1;refine Bx ?_;refine Bx ?_;refine Wa<|Y0<|Ac<|Y1 ?_;refine Wq BF ?_;refine Wq Bb ?_;refine Wm ?_;refine Ws ?_;refine Ws ?_;refine Ws ?_;refine Wq Bz ?_;apply Y0;refine Cf ?_;refine Ys<|Ac<|Y1 ?_;refine Wq BF ?_;refine Wq Bb ?_;refine Wq Ci ?_;refine Wm ?_;refine Wg BF ?_;refine Wg Bb ?_;refine Wq AW ?_;apply Y0;refine Ct ?_;refine Y1<|Wa<|Y0 ?_;apply Aw;apply AR
  exact Yf
 ·refine Ab Tryz.func129 fun s0 => ?_
  rw [Tryz.ntmps129]
  apply Y1;refine Bx ?_;refine Bx ?_;refine Wa<|Y0<|Ac<|Y1 ?_;refine Wq BF ?_;refine Wq Bb ?_;refine Wm ?_;refine Wg BF ?_;refine Wg Bb ?_;refine Wg Ci ?_;refine Wq AW ?_;apply Y0;refine Ct ?_;refine Y1<|Wa<|Y0 ?_;apply Aw;apply AR
  exact Yf
 ·refine Ab Tryz.func129 fun s0 => ?_
  rw [Tryz.ntmps129]
  apply Y1;refine Bx ?_;refine Bx ?_;refine Wa<|Y0<|Ac<|Y1 ?_;refine Wq BF ?_;refine Wq Bb ?_;refine Wm ?_;refine Wg BF ?_;refine Wg Bb ?_;refine Wg Ci ?_;refine Wq AW ?_;apply Y0;refine Cf ?_;refine Ys<|Ac<|Y1 ?_;refine Wq BF ?_;refine Wq Bb ?_;refine Wq Ci ?_;refine Wm ?_;refine Ws ?_;refine Ws ?_;refine Wq Bz ?_;apply Y0;refine Cf ?_;refine Ys<|Ac<|Y1 ?_;refine Wq BF ?_;refine Wq Bb ?_;apply Y0;refine Ct ?_;apply Y1;refine Wq BF ?_;refine Wq Bb ?_;refine Wq BF ?_;refine Wq Bb ?_;refine Wq (Ai (Hx m' m)) ?_;refine Wa<|Y0 ?_;apply Aw;apply AR
  exact Yf
theorem MC (x y:Nat):CY x y = ((x:Int) - y).sign:=by
 unfold CY
 rcases Nat.lt_trichotomy x y with h | h | h
 ·rw [if_pos h,Int.sign_eq_neg_one_of_neg (by omega)]
 ·subst h;simp
 ·rw [if_neg (by omega),if_pos h,Int.sign_eq_one_of_pos (by omega)]
theorem Ut (x y:Int):A1F (decide (x<0)) x.natAbs (decide (y<0)) y.natAbs = (x - y).sign:=by
 by_cases hx:x<0 <;> by_cases hy:y<0
 ·rw [decide_eq_true hx,decide_eq_true hy]
  show CY _ _ = _
  rw [MC];congr 1;omega
 ·rw [decide_eq_true hx,decide_eq_false hy]
  show (-1:Int) = _
  rw [Int.sign_eq_neg_one_of_neg (by omega)]
 ·rw [decide_eq_false hx,decide_eq_true hy]
  show (1:Int) = _
  rw [Int.sign_eq_one_of_pos (by omega)]
 ·rw [decide_eq_false hx,decide_eq_false hy]
  show CY _ _ = _
  rw [MC];congr 1;omega
theorem UD (x y:Int):Abs Tryz.prog 129 [BO (Fq x),BO (Fq y)] (ex (.int .i64 (x - y).sign)):=by
 rw [← Ut]
 exact UC _ _ _ _
theorem Vu {g : Nat} (h:0<g):(((g:Int) - 1).sign == 0) = decide (g = 1):=by
 by_cases h1:g = 1
 ·subst h1;rfl
 ·rw [decide_eq_false h1,Int.sign_eq_one_of_pos (by omega)];rfl
open Classical in
theorem PU (b : Bool) (l:List Nat) (b':Bool) (l':List Nat) (hs:Be l) (hs':Be l') (hn:l.length≤1000000000) (hn':l'.length≤1000000000):Abs Tryz.prog 81 [BO (A2k b l b' l')] (ex (.bool (decide (QOk b l b' l')))):=by
 have c1:=Jv b l hn
 have c2:=Jv b' l' hn'
 cases h1:GM b l with
 | false =>
  have hq:¬ QOk b l b' l':=fun h=>by rw [(Xt h).1] at h1;cases h1
  rw [h1] at c1
  rw [decide_eq_false hq]
  refine Ab Tryz.func81 fun s0=>?_
  rw [Tryz.ntmps81]
  apply Y1;refine Bx ?_;refine Wa<|Y0<|Ac<|Y1 ?_;refine Wq BF ?_;refine Wq AN ?_;refine Wq (Ai (c1)) ?_;refine Wq Ci ?_;refine Wm ?_;refine Ws ?_;refine Ws ?_;refine Ws ?_;refine Ws ?_;refine Wq AW ?_;refine Wm ?_;refine Ws ?_;refine Ws ?_;refine Ws ?_;refine Ws ?_;refine Wq AW ?_;apply Y0;refine Ct ?_;refine Y1<|Wa<|Y0 ?_;apply Aw;apply AR
  exact Yf
 | true =>
  rw [h1] at c1
  cases h2:GM b' l' with
  | false =>
   have hq:¬ QOk b l b' l':=fun h=>by rw [(Xt h).2] at h2;cases h2
   rw [h2] at c2
   rw [decide_eq_false hq]
   refine Ab Tryz.func81 fun s0=>?_
   rw [Tryz.ntmps81]
   apply Y1;refine Bx ?_;refine Wa<|Y0<|Ac<|Y1 ?_;refine Wq BF ?_;refine Wq AN ?_;refine Wq (Ai (c1)) ?_;refine Wq Ci ?_;refine Wm ?_;refine Wg BF ?_;refine Wg AN ?_;refine Wg (Ai (c2)) ?_;refine Wg Ci ?_;refine Wq Bz ?_;refine Wm ?_;refine Ws ?_;refine Ws ?_;refine Ws ?_;refine Ws ?_;refine Wq AW ?_;apply Y0;refine Ct ?_;refine Y1<|Wa<|Y0 ?_;apply Aw;apply AR
   exact Yf
  | true =>
   rw [h2] at c2
   obtain ⟨x,rfl,rfl⟩:=Mt hs h1
   obtain ⟨y,rfl,rfl⟩:=Mt hs' h2
   by_cases hy:0<y
   ·have hsg:y.sign = 1:=Int.sign_eq_one_of_pos hy
    have hg:decide (QOk (decide (x<0)) (Ah x.natAbs) (decide (y<0)) (Ah y.natAbs)) = ((((Nat.gcd x.natAbs y.natAbs:Nat):Int) - 1).sign == 0):=by
     have hpos:0<Nat.gcd x.natAbs y.natAbs:=Nat.gcd_pos_of_pos_right _ (by omega)
     rw [Vu hpos]
     exact decide_eq_decide.2 ((Tn x y).trans ⟨fun h=>h.2,fun h=>⟨hy,h⟩⟩)
    rw [hg]
    refine Ab Tryz.func81 fun s0=>?_
    rw [Tryz.ntmps81]
    apply Y1;refine Bx ?_;refine Wa<|Y0<|Ac<|Y1 ?_;refine Wq BF ?_;refine Wq AN ?_;refine Wq (Ai (c1)) ?_;refine Wq Ci ?_;refine Wm ?_;refine Wg BF ?_;refine Wg AN ?_;refine Wg (Ai (c2)) ?_;refine Wg Ci ?_;refine Wq Bz ?_;refine Wm ?_;refine Wg BF ?_;refine Wg AN ?_;refine Wg (Ai (MS y)) ?_;refine Wg At ?_;refine Wq Bz ?_;apply Y0;refine Cf ?_;refine Ys<|Y1 ?_;refine Wq BF ?_;refine Wq AN ?_;refine Wq BF ?_;refine Wq AN ?_;refine Wq (Ai (WV x y (by omega) (by omega))) ?_;refine Wq (Ai (YZ 1 (by omega) (by omega))) ?_;refine Wq (Ai (UD (Nat.gcd x.natAbs y.natAbs:Nat) 1)) ?_;refine Wq Lp ?_;refine Wa<|Y0 ?_;apply Aw
    exact Yf
   ·have hsg : y.sign ≤ 0 := Int.sign_nonpos_iff.2 (by omega)
    rw [decide_eq_false fun h=>hy ((Tn x y).1 h).1]
    refine Ab Tryz.func81 fun s0=>?_
    rw [Tryz.ntmps81]
    apply Y1;refine Bx ?_;refine Wa<|Y0<|Ac<|Y1 ?_;refine Wq BF ?_;refine Wq AN ?_;refine Wq (Ai (c1)) ?_;refine Wq Ci ?_;refine Wm ?_;refine Wg BF ?_;refine Wg AN ?_;refine Wg (Ai (c2)) ?_;refine Wg Ci ?_;refine Wq Bz ?_;refine Wm ?_;refine Wg BF ?_;refine Wg AN ?_;refine Wg (Ai (MS y)) ?_;refine Wg AA ?_;refine Wq Bz ?_;apply Y0;refine Ct ?_;refine Y1<|Wa<|Y0 ?_;apply Aw;apply AR
    exact Yf
end Go.Proofs.YtialdhnijjnpaaaGreat
