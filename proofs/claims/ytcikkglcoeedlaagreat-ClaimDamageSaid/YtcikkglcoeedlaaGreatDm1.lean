/- Part 1. No condition. -/
import Derived.BigQuiet
import Derived.Deep.QuietTactic
import Derived.Deep.RegionHeld3
import Derived.Laws.AppendOwnNone
import Derived.Test.YtcikkglcoeedlaaGreatRows
import Derived.WalkKit
import Derived.WalkLawsBesides
import Derived.WalkSpells
set_option linter.all false
set_option linter.defProp false
set_option maxRecDepth 100000
set_option maxHeartbeats 800000
namespace Go.Proofs
abbrev Yaa:=@List.getD_eq_getElem?_getD
abbrev Yab:=@List.getElem?_eq_getElem
abbrev Yac:=@List.length_append
abbrev Yad:=@decide_eq_false
abbrev Yae:=@List.getElem?_eq_some_iff
abbrev Yaf:=@List.append_assoc
abbrev Yag:=@Option.some.inj
abbrev Yah:=@List.all_eq_true
abbrev Yai:=@Nat.le_refl
abbrev Yaj:=@if_neg
abbrev Yak:=@List.getElem?_append_right
abbrev Yal:=@decide_eq_true
abbrev Yam:=@Bool.and_eq_true
abbrev Yan:=@Nat.eq_of_beq_eq_true
abbrev Yao:=@if_pos
abbrev Yap:=@List.length_map
abbrev Yaq:=@Nat.lt_of_lt_of_le
abbrev Yar:=@List.take_of_length_le
abbrev Yas:=@Nat.mul_le_mul_left
abbrev Yat:=@List.length_cons
abbrev Yau:=@Nat.le_trans
abbrev Yav:=@List.getElem?_map
abbrev Yaw:=@List.getElem?_append_left
abbrev Yax:=@List.mem_singleton
abbrev Yay:=@Nat.zero_le
abbrev Yaz:=@List.mem_of_getElem?
abbrev YaA:=@Array.getD_eq_getD_getElem?
abbrev YaB:=@Nat.eq_zero_or_pos
abbrev YaC:=@Nat.mul_le_mul_right
abbrev YaD:=@List.mem_map
abbrev YaE:=@List.eq_nil_of_length_eq_zero
abbrev YaF:=@Array.getElem?_eq_getElem
abbrev YaG:=@Nat.mul_add
abbrev YaH:=@Nat.zero_add
abbrev YaI:=@Nat.lt_or_ge
abbrev YaJ:=@Nat.ne_of_beq_eq_false
abbrev YaK:=@List.getElem?_take
abbrev YaL:=@List.mem_cons
abbrev YaM:=@Nat.mul_comm
abbrev YaN:=@List.drop_eq_nil_of_le
abbrev YaO:=@List.length_take
abbrev YaP:=@Array.getElem?_setIfInBounds_ne
abbrev YaQ:=@List.getElem?_append
abbrev YaR:=@Nat.mod_lt
abbrev YaS:=@List.map_congr_left
abbrev YaT:=@Bool.or_eq_true
abbrev YaU:=@Int.natAbs_natCast
abbrev YaV:=@Nat.mod_eq_of_lt
abbrev YaW:=@List.drop_zero
abbrev YaX:=@Nat.mul_le_mul
abbrev YaY:=@List.take_length
abbrev YaZ:=@decide_eq_true_eq
abbrev Yba:=@Nat.mul_assoc
abbrev Ybb:=@List.map_cons
abbrev Ybc:=@List.mem_cons_of_mem
abbrev Ybd:=@List.mem_range
abbrev Ybe:=@List.setIfInBounds_toArray
abbrev Ybf:=@Nat.add_zero
abbrev Ybg:=@List.length_nil
abbrev Ybh:=@List.mem_of_mem_take
abbrev Ybi:=@Int.sign_eq_neg_one_of_neg
abbrev Ybj:=@Nat.not_lt_zero
abbrev Ybk:=@List.mem_cons_self
abbrev Ybl:=@List.take_succ_cons
abbrev Ybm:=@Nat.mul_left_comm
abbrev Ybn:=@List.drop_succ_cons
abbrev Ybo:=@Nat.pow_le_pow_right
abbrev Ybp:=@List.mem_of_find?_eq_some
abbrev Ybq:=@Nat.blt_eq
abbrev Ybr:=@Int.sign_eq_one_of_pos
abbrev Ybs:=@List.getElem_mem
abbrev Ybt:=@Nat.pow_succ
abbrev Ybu:=@Nat.div_lt_of_lt_mul
abbrev Ybv:=@List.contains_iff_mem
abbrev Ybw:=@Nat.lt_of_mul_lt_mul_left
abbrev Ybx:=@List.length_drop
abbrev Yby:=@Nat.min_eq_left
abbrev Ybz:=@Nat.mul_one
abbrev YbA:=@Array.getElem?_eq_some_iff
abbrev YbB:=@List.set_cons_succ
abbrev YbC:=@Nat.pos_of_ne_zero
abbrev YbD:=@List.append_nil
abbrev YbE:=@Nat.le_of_ble_eq_true
abbrev YbF:=@List.any_eq_true
abbrev YbG:=@Nat.add_mul
abbrev YbH:=@List.getElem?_toArray
abbrev YbI:=@List.getElem?_eq_none
abbrev YbJ:=@Int.eq_ofNat_of_zero_le
abbrev YbK:=@Nat.div_eq_of_lt
abbrev YbL:=@List.length_set
abbrev YbM:=@List.getElem?_set
abbrev YbN:=@Nat.gcd_dvd_right
abbrev YbO:=@List.getElem?_of_mem
abbrev YbP:=@Int.le_refl
abbrev YbQ:=@List.mem_zipIdx_iff_getElem?
abbrev YbR:=@Nat.add_assoc
abbrev YbS:=@List.set_cons_zero
abbrev YbT:=@List.getElem?_drop
abbrev YbU:=@List.mem_map_of_mem
abbrev YbV:=@List.take_append_drop
abbrev YbW:=@List.mem_append
abbrev YbX:=@List.ext_getElem?
abbrev YbY:=@Int.tdiv_eq_ediv_of_nonneg
abbrev YbZ:=@List.mem_of_mem_drop
abbrev Yca:=@Nat.le_of_lt
abbrev Ycb:=@List.map_nil
abbrev Ycc:=@Nat.lt_of_le_of_lt
abbrev Ycd:=@Nat.add_sub_cancel
abbrev Yce:=@Nat.mod_eq_zero_of_dvd
abbrev Ycf:=@List.take_zero
abbrev Ycg:=@List.map_append
abbrev Ych:=@Nat.zero_lt_succ
abbrev Yci:=@Nat.lt_trichotomy
abbrev Ycj:=@List.map_map
abbrev Yck:=@List.length_singleton
abbrev Ycl:=@List.find?_eq_none
abbrev Ycm:=@Nat.lt_irrefl
abbrev Ycn:=@List.cons_append
abbrev Yco:=@List.map_toArray
abbrev Ycp:=@List.take_succ_eq_append_getElem
abbrev Ycq:=@Int.tmod_eq_emod_of_nonneg
abbrev Ycr:=@List.getElem?_eq_none_iff
abbrev Ycs:=@List.drop_eq_getElem_cons
abbrev Yct:=@Int.mul_nonneg
abbrev Ycu:=@Int.natAbs_mul
abbrev Ycv:=@List.pairwise_iff_getElem
abbrev Ycw:=@Int.natCast_add
abbrev Ycx:=@Array.getElem?_toList
abbrev Ycy:=@List.nil_append
abbrev Ycz:=@Nat.mul_zero
abbrev YcA:=@Nat.beq_refl
abbrev YcB:=@List.range_succ
abbrev YcC:=@Option.isSome_iff_exists
abbrev YcD:=@BitVec.toNat_ofNat
abbrev YcE:=@Nat.shiftLeft_add_eq_or_of_lt
abbrev YcF:=@Nat.one_mul
abbrev YcG:=@Nat.gcd_dvd_left
abbrev YcH:=@Nat.zero_mul
abbrev YcI:=@beq_iff_eq
abbrev YcJ:=@List.find?_some
abbrev YcK:=@Nat.mod_add_div
abbrev YcL:=@Nat.pow_add
abbrev YcM:=@List.getElem_of_mem
abbrev YcN:=@List.getElem?_set_self
abbrev YcO:=@decide_eq_decide
abbrev YcP:=@Nat.succ_mul
abbrev YcQ:=@Nat.gcd_comm
abbrev YcR:=@List.getElem?_set_ne
abbrev YcS:=@Option.some.injEq
abbrev YcT:=@Nat.div_add_mod
abbrev YcU:=@Nat.mul_add_div
abbrev YcV:=@Nat.zero_lt_one
abbrev YcW:=@Bool.eq_iff_iff
abbrev YcX:=@List.take_add_one
abbrev YcY:=@of_decide_eq_true
abbrev YcZ:=@List.getElem?_cons_succ
abbrev Yda:=@Nat.mul_pos
abbrev Ydb:=@List.getD_cons_succ
abbrev Ydc:=@Int.ofNat_dvd_left
abbrev Ydd:=@Option.map_some
abbrev Yde:=@Nat.add_comm
abbrev Ydf:=@Nat.two_pow_pos
abbrev Ydg:=@Nat.ble_eq_true_of_le
abbrev Ydh:=@List.size_toArray
abbrev Ydi:=@Bool.eq_false_iff
abbrev Ydj:=@List.flatMap_cons
abbrev Ydk:=@List.flatten_cons
abbrev Ydl:=@Rat.divInt_eq_div
abbrev Ydm:=@Array.getElem?_append_left
abbrev Ydn:=@Nat.mul_lt_mul_of_pos_left
abbrev Ydo:=@Classical.byContradiction
abbrev Ydp:=@List.drop_drop
abbrev Ydq:=@Int.sign_eq_zero_iff_zero
abbrev Ydr:=@Int.natCast_ediv
abbrev Yds:=@Int.natCast_emod
abbrev Ydt:=@Iff.rfl
abbrev Ydu:=@List.getElem?_range
abbrev Ydv:=@Nat.sub_self
abbrev Ydw:=@Int.mul_nonpos_of_nonpos_of_nonneg
abbrev Ydx:=@Nat.div_lt_self
abbrev Ydy:=@Int.natCast_mul
abbrev Ydz:=@Nat.mul_add_mod
abbrev YdA:=@List.pairwise_cons
abbrev YdB:=@List.foldl_cons
abbrev YdC:=@Nat.mul_div_cancel_left
abbrev YdD:=@decide_eq_false_iff_not
abbrev YdE:=@Array.ext_getElem?
abbrev YdF:=@Nat.le_of_dvd
abbrev YdG:=@Array.count_toList
abbrev YdH:=@List.set_eq_take_append_cons_drop
abbrev YdI:=@Array.getElem?_extract
abbrev YdJ:=@Rat.normalize_eq_mkRat
abbrev YdK:=@Int.toNat_natCast
abbrev YdL:=@Nat.ble_eq
abbrev YdM:=@Int.lt_trichotomy
abbrev YdN:=@Array.getElem?_modify
abbrev YdO:=@Nat.div_lt_iff_lt_mul
abbrev YdP:=@Nat.and_two_pow_sub_one_eq_mod
abbrev YdQ:=@List.length_replicate
abbrev YdR:=@List.eq_nil_iff_forall_not_mem
abbrev YdS:=@Int.mul_le_mul_of_nonneg_right
abbrev YdT:=@Option.bind_some
abbrev YdU:=@Nat.shiftLeft_eq
abbrev YdV:=@List.mem_toArray
abbrev YdW:=@List.not_mem_nil
abbrev YdX:=@List.getElem_map
abbrev YdY:=@Nat.succ_lt_succ
abbrev YdZ:=@Int.mul_le_mul_of_nonneg_left
abbrev Yea:=@BitVec.ofInt_natCast
abbrev Yeb:=@List.map_drop
abbrev Yec:=@List.map_take
abbrev Yed:=@Nat.dvd_trans
abbrev Yee:=@List.mem_filter
abbrev Yef:=@List.replicate_succ
abbrev Yeg:=@BitVec.toNat_or
abbrev Yeh:=@Int.natCast_one
abbrev Yei:=@Array.size_push
abbrev Yej:=@Nat.le_succ
abbrev Yek:=@Array.length_toList
abbrev Yel:=@Nat.lt_mul_div_succ
abbrev Yem:=@Nat.pow_pos
abbrev Yen:=@Nat.mul_lt_mul_of_pos_right
abbrev Yeo:=@Int.one_mul
abbrev Yep:=@List.map_id
abbrev Yeq:=@Nat.lt_of_mul_lt_mul_right
abbrev Yer:=@Nat.lt_trans
abbrev Yes:=@List.map_set
abbrev Yet:=@Int.le_trans
abbrev Yeu:=@Array.all_eq_true'
abbrev Yev:=@Int.emod_lt_of_pos
abbrev Yew:=@List.mem_or_eq_of_mem_set
abbrev Yex:=@List.take_left
abbrev Yey:=@Nat.shiftRight_eq_div_pow
abbrev Yez:=@Int.natAbs_neg
abbrev YeA:=@Int.mul_neg_of_neg_of_pos
abbrev YeB:=@Nat.eq_of_mul_eq_mul_left
abbrev YeC:=@Nat.or_lt_two_pow
abbrev YeD:=@List.foldl_append
abbrev YeE:=@List.length_range
abbrev YeF:=@Prod.mk.injEq
abbrev YeG:=@List.mem_flatMap
abbrev YeH:=@Nat.lt_succ_self
abbrev YeI:=@Option.map_none
abbrev YeJ:=@Rat.num_eq_zero
abbrev YeK:=@List.find?_cons
abbrev YeL:=@Int.mul_ne_zero
abbrev YeM:=@Int.emod_nonneg
abbrev YeN:=@Nat.div_le_self
abbrev YeO:=@Rat.num_intCast
abbrev YeP:=@Nat.testBit_or
abbrev YeQ:=@List.take_take
abbrev YeR:=@Int.mul_neg
abbrev YeS:=@Nat.gcd_rec
abbrev YeT:=@Nat.div_pos
abbrev YeU:=@Int.mul_pos
structure Zaa(q:Prop):Prop where
 a:q
section
variable{p q:Prop}
theorem Zbu(h:p:=by
 refine Fh 184 5 ZbH ZbH rfl ?_;refine AC (λw e=>∃k v,k<=g/\w=g-k/\e=⟨[(3,.ptr 0 0),(4,.ptr 1 0),(5,.ptr 2 0),(6,.ptr 3 0),(7,.d (Bb (Ba L))),(8,.d (ex (.int .i64 ((E.length:Nat):Int)))),(9,.ptr 4 0),(10,.d (ex (.int .i64 (g:Nat)))),(11,.d (ex (.int .i64 (k:Nat))))],[.var 58 ((Hr T t M L V).map .d),.var 26 (([ex (.int .i64 W),Bb E,F]:List D).map .d),.var 34 (([ex (.int .i64 A),G,ex (.int .i64 n),ex (.int .i64 d),ex (.int .i64 r),Y,Bb p,S,C]:List D).map .d),.var 46 ((EN 0 Aq Aq Aq Aq Aq Aq Aq Aq Aq Aq).map .d),.var 46 ((EN 0 (Bb (pQ (Ba L) 1 E.length)) Aq Aq Aq Aq Aq Aq (ex v) Aq Aq).map .d),.obj (LX v 184 5 (VE (Ba L) V k))]⟩) ?le ⟨0,.slice none 0 0,by omega,rfl,rfl⟩ ?round
 case le=>exact Ac Zct Zev
 case round=>
  rintro w _ ⟨k,v,B,rfl,rfl⟩;by_cases O:k<g
  .have J:=CI t V f k ZbC I
   have q:=Cj f k;have h:=Kz (AR V k) 5 ZbC ZbC ZbH ZbH;have l:Abs Tryz.prog 62 [Bb (Ba L),ex (.int .i64 (k:Nat)),ex (.int .i64 (1:Nat))] (Bb [pP (Ba L) k]):=Ex (Ba L) k 1 ZbC ZbH ZbC;refine Go ?_;refine FP 5 (.obj (LX v 184 5 (VE (Ba L) V k))) (.row 184 5 (VE (Ba L) V k++[DE (Rat.divInt (AR V k) 5)++[BS (pP (Ba L) k)]])) 16 18 [17,16,15,14,13,12,11,10,9,8,7,6,5,4,3,2,1,0] [] [.ptr 4 25,.d (ex v),.ptr 0 2,.d (OR t V),.d (ex (.int .i64 (k:Nat))),.d (ex (.int .i64 (AR V k))),.d (ex (.int .i8 (AR V k))),.d (AP [ex (.int .i8 (AR V k)),ex (.int .i8 5),ex (.int .u8 0)]),.d (AP (DE (Rat.divInt (AR V k) 5))),.d (Bb (Ba L)),.d (ex (.int .i64 (k:Nat))),.d (Bb [pP (Ba L) k]),.d (Fk 28 [BS (pP (Ba L) k)]),.d (BS (pP (Ba L) k)),.d (AP (DE (Rat.divInt (AR V k) 5)++[BS (pP (Ba L) k)])),.d (slD 184 5 [DE (Rat.divInt (AR V k) 5)++[BS (pP (Ba L) k)]]),.own 5,.ptr 4 25] [(3,.ptr 0 0),(4,.ptr 1 0),(5,.ptr 2 0),(6,.ptr 3 0),(7,.d (Bb (Ba L))),(8,.d (ex (.int .i64 ((E.length:Nat):Int)))),(9,.ptr 4 0),(10,.d (ex (.int .i64 (g:Nat)))),(11,.d (ex (.int .i64 (k:Nat))))] [(75,.own 5),(76,.ptr 4 25),(3,.ptr 0 0),(4,.ptr 1 0),(5,.ptr 2 0),(6,.ptr 3 0),(7,.d (Bb (Ba L))),(8,.d (ex (.int .i64 ((E.length:Nat):Int)))),(9,.ptr 4 0),(10,.d (ex (.int .i64 (g:Nat)))),(11,.d (ex (.int .i64 (k:Nat))))] ZbG rfl ⟨rfl,rfl,rfl,rfl,rfl,rfl,rfl,rfl,rfl,trivial⟩ rfl rfl ZbG ZbG ZbG (by refine DSteps.q rfl ZbA ?_;refine DSteps.q rfl ZbA ?_;refine DSteps.q rfl ZbA ?_;refine DSteps.q rfl ZbA ?_;refine DSteps.q rfl ZbA ?_;refine DSteps.q rfl (λ_=>BO (ah rfl) J (ArgsLe.cons rfl (D.le.refl _) (ArgsLe.cons rfl (D.le.refl _) ArgsLe.nil))) ?_;refine DSteps.q rfl (λ_=>AO (r:=AR V k) (ah rfl) (Aa rfl) (Aa rfl) (WO ZbC ZbC)) ?_;refine DSteps.q rfl ZbA ?_;refine DSteps.q rfl (λ_=>BO (ah rfl) h (ArgsLe.cons rfl (D.le.refl _) ArgsLe.nil)) ?_;refine DSteps.q rfl ZbA ?_;refine DSteps.q rfl ZbA ?_;refine DSteps.q rfl (λ_=>BO (ah rfl) l (ArgsLe.cons rfl (D.le.refl _) (ArgsLe.cons rfl (D.le.refl _) (ArgsLe.cons rfl (D.le.refl _) ArgsLe.nil)))) ?_;refine DSteps.q rfl (λ_=>II (f:=λP=>[BS P]) (a:=pP (Ba L) k) (l:=[]) rfl (ah rfl) (Aa rfl) (Aa rfl) rfl) ?_;refine DSteps.q rfl (λ_=>Gv (ah rfl) (Aa rfl) rfl rfl) ?_;refine DSteps.q rfl ZbA ?_;refine DSteps.q rfl (λ_=>Cb (ah rfl) (Aa rfl) (Aa rfl) rfl rfl rfl rfl rfl) ?_;refine DSteps.k rfl (DTurn.rows rfl rfl rfl (Aa rfl) (Aa rfl) rfl rfl rfl rfl ZiI ZiI) ?_;refine DSteps.q rfl ZbA ?_;exact DSteps.nil) ZbG ZbG ⟨rfl,rfl,rfl,rfl,rfl,rfl,rfl,rfl,rfl,rfl,rfl,trivial⟩ [.var 58 ((Hr T t M L V).map .d),.var 26 (([ex (.int .i64 W),Bb E,F]:List D).map .d),.var 34 (([ex (.int .i64 A),G,ex (.int .i64 n),ex (.int .i64 d),ex (.int .i64 r),Y,Bb p,S,C]:List D).map .d),.var 46 ((EN 0 Aq Aq Aq Aq Aq Aq Aq Aq Aq Aq).map .d),.var 46 ((EN 0 (Bb (pQ (Ba L) 1 E.length)) Aq Aq Aq Aq Aq Aq (ex v) Aq Aq).map .d),.row 184 5 (VE (Ba L) V k++[DE (Rat.divInt (AR V k) 5)++[BS (pP (Ba L) k)]])] rfl ?_;refine Eo (ao rfl) (ao rfl) rfl (Aa rfl) (One.own rfl) rfl rfl ?_;refine AWl.nil<|Bg<|Yn ?_;(refine Gf 5 184 5 (VE (Ba L) V (k+1)) (by rw[XR];rfl) λX=>?_);refine AWp.region<|Wm ?_;refine Wq CL ?_;refine Wa<|AWl.nil ?_
   skip
   refine Ai (g-(k+1)) ZbC ⟨k+1,X,by omega,rfl,rfl⟩ ?_;exact Ac Zct Zdm
  .obtain rfl:k=g:=by omega
   refine CT (σ':=⟨[(3,.ptr 0 0),(4,.ptr 1 0),(5,.ptr 2 0),(6,.ptr 3 0),(7,.d (Bb (Ba L))),(8,.d (ex (.int .i64 ((E.length:Nat):Int)))),(9,.ptr 4 0),(10,.d (ex (.int .i64 (k:Nat)))),(11,.d (ex (.int .i64 (k:Nat))))],[.var 58 ((Hr T t M L V).map .d),.var 26 (([ex (.int .i64 W),Bb E,F]:List D).map .d),.var 34 (([ex (.int .i64 A),G,ex (.int .i64 n),ex (.int .i64 d),ex (.int .i64 r),Y,Bb p,S,C]:List D).map .d),.var 46 ((EN 0 Aq Aq Aq Aq Aq Aq Aq Aq Aq Aq).map .d),.var 46 ((EN 0 (Bb (pQ (Ba L) 1 E.length)) Aq Aq Aq Aq Aq Aq (slD 184 5 (VE (Ba L) V k)) Aq Aq).map .d),.dead]⟩) ?wk ?_
   case wk=>exact Ac Zcx (HpLe.cons (OwLe.varD rfl) (HpLe.cons (OwLe.varD rfl) (HpLe.cons (OwLe.varD rfl) (HpLe.cons (OwLe.varD rfl) (HpLe.cons (OwLe.cells Zdo) (HpLe.cons OwLe.dead HpLe.nil))))))
   refine Go ?_;exact AA (Am (ResV.cell rfl rfl (Aa rfl) rfl rfl rfl) (D.le.refl _))):p:=h
theorem Zbj(h:p:=by
 rintro w _ ⟨k,B,rfl,H,rfl⟩;by_cases O:k<L.length
 .have G:=hF _ (BC (l:=L) O)
  by_cases q:P (L.getD k default)
  .rw [Yal q]at G
   have E:∀j,j<k+1->P (L.getD j default):=λj X=>by
    rcases YaI j k with h | h
    .exact H j h
    .obtain rfl:j=k:=by omega
     exact q
   refine Go ?_;refine Wq (Dm (ao rfl) G Zcq) ?_;refine Go ?_;refine Ai (L.length-(k+1)) ZbC ⟨k+1,by omega,rfl,E,rfl⟩ ?_;exact Ac Zci Zcb
  .rw [Yad q]at G
   rw[Yad λh:(∀x∈L,P x)=>q (h _ (BC O))];refine Go ?_;refine Wq (Dm (ao rfl) G Zcq) ?_;refine Go ?_;exact Yf
 .obtain rfl:k=L.length:=by omega
  rw[Yal (show∀x∈L,P x from λx C=>by
   obtain⟨j,X,e⟩:=YcM C;have:=H j X;rw[Yaa,Yab X,e]at this;exact this)]
  refine Go ?_;exact Yf):p:=h
theorem Zbv(h:p:=by
 refine Fh 129 8 ZbH ZbH rfl ?_;refine AC (λw e=>∃k v,k<=g/\w=g-k/\e=⟨[(3,.ptr 0 0),(4,.ptr 1 0),(5,.ptr 2 0),(6,.ptr 3 0),(7,.d (Bb (Ba L))),(8,.d (ex (.int .i64 ((E.length:Nat):Int)))),(9,.ptr 4 0),(10,.d (ex (.int .i64 (g:Nat)))),(15,.d (ex (.int .i64 (k:Nat))))],[.var 58 ((Hr T t M L V).map .d),.var 26 (([ex (.int .i64 W),Bb E,F]:List D).map .d),.var 34 (([ex (.int .i64 P),C,ex (.int .i64 n),ex (.int .i64 d),ex (.int .i64 r),Y,Bb p,S,A]:List D).map .d),.var 46 ((EN 0 Aq Aq Aq Aq Aq Aq Aq Aq Aq Aq).map .d),.var 46 ((ctR (Bb (pQ (Ba L) 0 g)) (Er (CW g)) (FC (GJ (Ba L) E.length g)) (FC (GJ (Ba L) g E.length)) (FC (GJ (Ba L) g (g*(g-1)/2))) (ex (.int .i64 (AR V 5))) (Re (La V 3)) (Re (La V 2)) (ex v)).map .d),.obj (LX v 129 8 (WT V k))]⟩) ?le ⟨0,.slice none 0 0,by omega,rfl,rfl⟩ ?round
 case le=>exact Ac Zct Zev
 case round=>
  rintro w _ ⟨k,v,B,rfl,rfl⟩;by_cases O:k<g
  .have N:=LW t V f I k ZbC
   refine Go ?_;refine FP 5 (.obj (LX v 129 8 (WT V k))) (.row 129 8 (WT V k++[Ju (Eg V k 0)])) 8 10 [9,8,7,6,5,4,3,2,1,0] [] [.ptr 4 24,.d (ex v),.ptr 0 2,.d (OR t V),.d (ex (.int .i64 (k:Nat))),.d (AP (DB (Eg V k))),.d (AP (Ju (Eg V k 0))),.d (slD 129 8 [Ju (Eg V k 0)]),.own 5,.ptr 4 24] [(3,.ptr 0 0),(4,.ptr 1 0),(5,.ptr 2 0),(6,.ptr 3 0),(7,.d (Bb (Ba L))),(8,.d (ex (.int .i64 ((E.length:Nat):Int)))),(9,.ptr 4 0),(10,.d (ex (.int .i64 (g:Nat)))),(15,.d (ex (.int .i64 (k:Nat))))] [(175,.own 5),(176,.ptr 4 24),(3,.ptr 0 0),(4,.ptr 1 0),(5,.ptr 2 0),(6,.ptr 3 0),(7,.d (Bb (Ba L))),(8,.d (ex (.int .i64 ((E.length:Nat):Int)))),(9,.ptr 4 0),(10,.d (ex (.int .i64 (g:Nat)))),(15,.d (ex (.int .i64 (k:Nat))))] ZbG rfl ⟨rfl,rfl,rfl,rfl,rfl,rfl,rfl,rfl,rfl,trivial⟩ rfl rfl ZbG ZbG ZbG (by refine DSteps.q rfl ZbA ?_;refine DSteps.q rfl ZbA ?_;refine DSteps.q rfl ZbA ?_;refine DSteps.q rfl ZbA ?_;refine DSteps.q rfl ZbA ?_;refine DSteps.q rfl (λ_=>BO (ah rfl) N (ArgsLe.cons rfl (D.le.refl _) (ArgsLe.cons rfl (D.le.refl _) ArgsLe.nil))) ?_;refine DSteps.q rfl (λ_=>HF (k:=0) (ah rfl) (ah rfl) (Aa rfl) (Aa rfl) rfl ZbH ⟨YbE rfl,rfl⟩) ?_;refine DSteps.q rfl (λ_=>Cb (ah rfl) (Aa rfl) (Aa rfl) rfl rfl rfl rfl rfl) ?_;refine DSteps.k rfl (DTurn.rows rfl rfl rfl (Aa rfl) (Aa rfl) rfl rfl rfl rfl ZiI ZiI) ?_;refine DSteps.q rfl ZbA ?_;exact DSteps.nil) ZbG ZbG ⟨rfl,rfl,rfl,rfl,rfl,rfl,rfl,rfl,rfl,rfl,rfl,trivial⟩ [.var 58 ((Hr T t M L V).map .d),.var 26 (([ex (.int .i64 W),Bb E,F]:List D).map .d),.var 34 (([ex (.int .i64 P),C,ex (.int .i64 n),ex (.int .i64 d),ex (.int .i64 r),Y,Bb p,S,A]:List D).map .d),.var 46 ((EN 0 Aq Aq Aq Aq Aq Aq Aq Aq Aq Aq).map .d),.var 46 ((ctR (Bb (pQ (Ba L) 0 g)) (Er (CW g)) (FC (GJ (Ba L) E.length g)) (FC (GJ (Ba L) g E.length)) (FC (GJ (Ba L) g (g*(g-1)/2))) (ex (.int .i64 (AR V 5))) (Re (La V 3)) (Re (La V 2)) (ex v)).map .d),.row 129 8 (WT V k++[Ju (Eg V k 0)])] rfl ?_;refine Eo (ao rfl) (ao rfl) rfl (Aa rfl) (One.own rfl) rfl rfl ?_;refine AWl.nil<|Bg<|Yn ?_;(refine Gf 5 129 8 (WT V (k+1)) (by rw[Zr];rfl) λX=>?_);refine AWp.region<|Wm ?_;refine Wq CL ?_;refine Wa<|AWl.nil ?_
   skip
   refine Ai (g-(k+1)) ZbC ⟨k+1,X,by omega,rfl,rfl⟩ ?_;exact Ac Zct Zdm
  .obtain rfl:k=g:=by omega
   refine CT (σ':=⟨[(3,.ptr 0 0),(4,.ptr 1 0),(5,.ptr 2 0),(6,.ptr 3 0),(7,.d (Bb (Ba L))),(8,.d (ex (.int .i64 ((E.length:Nat):Int)))),(9,.ptr 4 0),(10,.d (ex (.int .i64 (k:Nat)))),(15,.d (ex (.int .i64 (k:Nat))))],[.var 58 ((Hr T t M L V).map .d),.var 26 (([ex (.int .i64 W),Bb E,F]:List D).map .d),.var 34 (([ex (.int .i64 P),C,ex (.int .i64 n),ex (.int .i64 d),ex (.int .i64 r),Y,Bb p,S,A]:List D).map .d),.var 46 ((EN 0 Aq Aq Aq Aq Aq Aq Aq Aq Aq Aq).map .d),.var 46 ((ctR (Bb (pQ (Ba L) 0 k)) (Er (CW k)) (FC (GJ (Ba L) E.length k)) (FC (GJ (Ba L) k E.length)) (FC (GJ (Ba L) k (k*(k-1)/2))) (ex (.int .i64 (AR V 5))) (Re (La V 3)) (Re (La V 2)) (slD 129 8 (WT V k))).map .d),.dead]⟩) ?wk ?_
   case wk=>exact Ac Zcx (HpLe.cons (OwLe.varD rfl) (HpLe.cons (OwLe.varD rfl) (HpLe.cons (OwLe.varD rfl) (HpLe.cons (OwLe.varD rfl) (HpLe.cons (OwLe.cells Zdo) (HpLe.cons OwLe.dead HpLe.nil))))))
   refine Go ?_;exact AA (Am (ResV.cell rfl rfl (Aa rfl) rfl rfl rfl) (D.le.refl _))):p:=h
theorem Zbb(h:p:=by
 rw [Yaj E]at C
 refine Wa<|Y0<|Ah<|Y1<|Wm<|Wm ?_;refine Wq (BZ (ao rfl)) ?_;refine Wq AB ?_;refine Wq Cm ?_;refine Wq (DD (ao rfl) (Aa rfl)) ?_;refine Wq (AO (r:=((d.length:Nat):Int)) (ao rfl) (Aa rfl) (Aa rfl) (EW ZbC)) ?_;refine Wq Bc ?_;refine Y0<|Ct<|AWp.region ?_;refine Wq (EO (ao rfl) (Aa rfl)) ?_
 refine Du (ao rfl) ?_;exact(by repeat (first | exact AN (C) | apply AH | apply PanQ.block | apply PanQ.loop):PanQ _ _) _):p:=h
theorem Zaj(h:p:=by
 obtain⟨q,A⟩:=h
 refine⟨?_,usteps_steps d xq (i:=i+1) (λk=>by
  have:=H (k+1);rw[show i+1+k=i+(k+1)by omega,<-this];rfl) (λk=>by
  have:=u (k+1);rw[show i+1+k=i+(k+1)by omega,<-this];rfl) Zeh A⟩
 intro g w S Z B xn xl J W;have s:L0[i]? = some o:=by have:=H 0;simpa using this.symm
 have C:sh[i]? = some ⟨e,b,[i]⟩:=by have:=u 0;simpa[Gq]using this.symm
 have xm:∀j,j∈b->∀G,Fs[j]? = some G->G (g j) w:=λj X G hG=>by
  have xb:∃y,sh[j]? = some y:=by
   cases N:sh[j]? with
   |some y=>exact⟨y,rfl⟩
   |none=>
    exfalso;have E:=X;have r:=(CQ d s).2.1 _ C;simp only[Fr,Yam]at r;have M:=Yah.1 r.1.1.1.1.1 j E;obtain⟨e',xa,xd⟩:=YbF.1 M;have O:=(CQ d s).1 e' xa;simp only[YaT,YcI]at xd;have xc:=ER C;rw[Ycr]at N;rcases xd with rfl | xd
    .omega
    .
     have key:∀(n:Nat) (y:Shape) (oy:Oper),sh[n]? = some y->L0[n]? = some oy->∀m∈y.bef,m<n:=by
      intro n
      induction n using Nat.strongRecOn with
      |_ n U=>
       intro y oy N xp m Y;have xo:=(CQ d xp).2.1 y N;simp only[Fr,Yam]at xo;have Q:=Yah.1 xo.1.1.1.1.1 m Y;obtain⟨V,xd,xh⟩:=YbF.1 Q;have xf:=(CQ d xp).1 V xd;simp only[YaT,YcI]at xh;rcases xh with rfl | xh
       .exact xf
       .cases xg:sh[V]? with
        |none=>simp[Dz,xg]at xh
        |some y2=>
         have xi:V<L0.length:=Yaq (ER xg) (DK d);have:=U V xf y2 _ xg (Yab xi) m (by simpa[Dz,xg]using xh);omega
     have:=key i _ o C s j X;omega
  obtain⟨y,N⟩:=xb;have:=B _ C j X y (unF G) N (by rw[Yav,hG];rfl);rw[xq j y N]at this;exact this
 have xt:OpsKnown Fs S w e:=by
  have xk:∀p∈e,p.2∈b:=λp I=>(HZ d C s I).1;have xr:Vs S g e:=xn;clear C xl q xn u K
  induction e with
  |nil=>trivial
  |cons p e U=>
   obtain⟨t,j⟩:=p;obtain⟨q1,q2⟩:=xr;exact⟨λG hG=>by rw[q1];exact xm j (xk (t,j) ZbR) G hG,U (λp I=>xk p (by simp[I])) q2⟩
 have:=q w S Z xt xl J W;have xj:∀v,unF F ([i].map (upd g i v))=F v:=λv=>by funext w;simp[unF,upd]
 cases R:o.guard with
 |none=>
  rw[R]at this;refine⟨λ_=>?_,λf=>by simp[Ft,R]at f⟩;simp only[xj];exact this
 |some jb=>
  obtain⟨j,c⟩:=jb;rw[R]at this
  have xs:j∈b:=by
   have r:=(CQ d s).2.1 _ C;simp only[Fr,Yam]at r;have M:=r.1.2;rw[R]at M;simp only[Yam]at M;simpa using M.1.1
  obtain⟨t1,t2⟩:=this (g j) (λG hG=>xm j xs G hG);refine⟨λf=>?_,λf=>?_⟩
  .simp only[xj]
   refine t1 ?_;simp only[Ft,R]at f;split at f
   .rename_i l xe;rw[xe];congr 1;simpa using f
   .cases f
  .simp only[xj]
   refine t2 λe'=>?_;simp[Ft,R,e']at f):p:=h
theorem ZaU(h:p:=by
 rintro q _ ⟨k,B,rfl,rfl⟩;by_cases O:k<l.length
 .have B:=c k O
  have L:=Dh Cy O;have A:=Cg (b++By N++(l.take k).flatMap Cy);rw[Yac,Yac]at A;have C:(Cy (l.getD k 0)).length=4:=rfl;have v:(CA (Cy (l.getD k 0))).length=4:=rfl;replace L:((l.take k).flatMap Cy).length+(Cy (l.getD k 0)).length<=(l.flatMap Cy).length:=L;obtain⟨w,f⟩:∃w,w=l.getD k 0:=⟨_,rfl⟩;refine Go ?_;refine Wq (BZ (ao rfl)) ?_;refine Go ?_;refine Wq (Ez (n:=24) (r:=((l.getD k 0/16777216:Nat):Int)) (ao rfl) (ao rfl) ZbH (Fd ZbH)) ?_;refine Wq (AO (r:=((l.getD k 0/16777216%256:Nat):Int)) (ao rfl) (Aa rfl) (Aa rfl) ZcC) ?_;refine Wm ?_;refine Wq (Ez (n:=16) (r:=((l.getD k 0/65536:Nat):Int)) (ao rfl) (ao rfl) ZbH (Fd ZbH)) ?_;refine Wq (AO (r:=((l.getD k 0/65536%256:Nat):Int)) (ao rfl) (Aa rfl) (Aa rfl) ZcC) ?_;refine Wm ?_;refine Wq (Ez (n:=8) (r:=((l.getD k 0/256:Nat):Int)) (ao rfl) (ao rfl) ZbH (Fd ZbH)) ?_;refine Wq (AO (r:=((l.getD k 0/256%256:Nat):Int)) (ao rfl) (Aa rfl) (Aa rfl) ZcC) ?_;refine Wm ?_;refine Wq (AO (r:=((l.getD k 0%256:Nat):Int)) (ao rfl) (Aa rfl) (Aa rfl) ZcC) ?_;(refine De rfl rfl ?_;(refine Dc (Aa rfl) (Aa rfl) rfl rfl rfl rfl rfl ?_;(repeat ((first | refine⟨_,Ar (ao rfl),?_⟩ | refine⟨_,Po rfl,?_⟩);refine⟨_,rfl,?_⟩));refine⟨_,rfl,?_⟩));(refine OP (r2:=CA (Cy (l.getD k 0))) (ao rfl) rfl rfl (Aa rfl) (Aa rfl) rfl rfl Zfb Zfb rfl Zcy rfl ?_);refine Wq (BZ (ao rfl)) ?_;refine Wq AB ?_;refine Eo (ao rfl) (ao rfl) rfl (Aa rfl) Zdz rfl rfl ?_;refine Go ?_;refine Ai (l.length-(k+1)) ZbC ⟨k+1,by omega,rfl,rfl⟩ ?_;exact Ac Zde (by refine HpLe.cons (Ad rfl) ?_;(refine HpLe.cons (OwLe.row (Oi Zfu)) ?_);exact HpLe.cons (Ak rfl)<|HpLe.nil)
 .obtain rfl:k=l.length:=by omega
  refine Go ?_
  first | refine Bt RetsA.none rfl ?_ rfl | refine AW RetsA.none rfl ?_ rfl
  exact⟨rfl,by rw[m,YaY,Yaf];rfl⟩):p:=h
theorem Zbf(h:p:=by
 rintro w _ ⟨k,B,rfl,rfl⟩;by_cases O:k<l.length
 .have B:=c k O
  have L:=Dh Cy O;have A:=Cg (b++By N++(l.take k).flatMap Cy);rw[Yac,Yac]at A;have C:(Cy (l.getD k 0)).length=4:=rfl;have v:(CA (Cy (l.getD k 0))).length=4:=rfl;replace L:((l.take k).flatMap Cy).length+(Cy (l.getD k 0)).length<=(l.flatMap Cy).length:=L;refine Go ?_;refine Wq (Ez (n:=24) (r:=((l.getD k 0/16777216:Nat):Int)) (ao rfl) (ao rfl) ZbH (Fd ZbH)) ?_;refine Wq (AO (r:=((l.getD k 0/16777216%256:Nat):Int)) (ao rfl) (Aa rfl) (Aa rfl) ZcC) ?_;refine Wm ?_;refine Wq (Ez (n:=16) (r:=((l.getD k 0/65536:Nat):Int)) (ao rfl) (ao rfl) ZbH (Fd ZbH)) ?_;refine Wq (AO (r:=((l.getD k 0/65536%256:Nat):Int)) (ao rfl) (Aa rfl) (Aa rfl) ZcC) ?_;refine Wm ?_;refine Wq (Ez (n:=8) (r:=((l.getD k 0/256:Nat):Int)) (ao rfl) (ao rfl) ZbH (Fd ZbH)) ?_;refine Wq (AO (r:=((l.getD k 0/256%256:Nat):Int)) (ao rfl) (Aa rfl) (Aa rfl) ZcC) ?_;refine Wm ?_;refine Wq (AO (r:=((l.getD k 0%256:Nat):Int)) (ao rfl) (Aa rfl) (Aa rfl) ZcC) ?_;(refine De rfl rfl ?_;(refine Dc (Aa rfl) (Aa rfl) rfl rfl rfl rfl rfl ?_;(repeat ((first | refine⟨_,Ar (ao rfl),?_⟩ | refine⟨_,Po rfl,?_⟩);refine⟨_,rfl,?_⟩));refine⟨_,rfl,?_⟩));(refine EC (r2:=CA (Cy (l.getD k 0))) (ao rfl) rfl rfl (Aa rfl) (Aa rfl) rfl rfl Zfb Zfb rfl ZbI rfl ?_);refine Go ?_;refine Ai (l.length-(k+1)) ZbC ⟨k+1,by omega,rfl,rfl⟩ ?_;exact Ac ZbY (by(refine HpLe.cons (OwLe.row (Oi Zfu)) ?_);exact HpLe.cons (Ak rfl)<|HpLe.cons (Ad rfl)<|HpLe.nil)
 .obtain rfl:k=l.length:=by omega
  refine Go ?_
  first | refine Bt (RetsA.one rfl) rfl ?_ rfl | refine AW (RetsA.one rfl) rfl ?_ rfl
  exact⟨rfl,by rw[m,YaY,Yaf];rfl⟩):p:=h
theorem ZaW(h:p:=by
 obtain rfl:k=L.length:=by omega
 refine Go ?_
 first | refine Bt RetsA.none rfl ?_ rfl | refine AW RetsA.none rfl ?_ rfl
 exact⟨rfl,by rw[YaY,Bp,<-Yaf];rfl⟩):p:=h
theorem Zbc(h:p:=by
 obtain rfl:k=n:=by omega
 rw[Ydv]at Y;refine Go ?_;refine FinP.ret (RetsA.d (Am (ResV.tmp rfl rfl) (D.le.refl _))) rfl ?_ rfl;exact⟨j,a,by rw[C,Y];simp[Co,Cp],F,rfl,rfl⟩):p:=h
theorem Zbn(h:p:=by
 by_cases Z:kind=6
 .subst Z
  refine Go ?_;refine Dy 5 ?_;refine DA ?_;refine Go ?_;exact AA (Rets.of2 (ResV.tmp rfl rfl) (ResV.tmp rfl rfl) (Cn (Ae Zdw) (Ae Zdx)))
 by_cases k:kind=7
 .subst k
  refine Go ?_;refine Dy 7 ?_;refine DA ?_;refine Go ?_;exact AA (Rets.of2 (ResV.tmp rfl rfl) (ResV.tmp rfl rfl) (Cn (Ae Zdw) (Ae Zdx)))
 by_cases A:kind=8
 .subst A
  refine Go ?_;refine Dy 7 ?_;refine DA ?_;refine Go ?_;exact AA (Rets.of2 (ResV.tmp rfl rfl) (ResV.tmp rfl rfl) (Cn (Ae Zdw) (Ae Zdx)))
 by_cases C:kind=9
 .subst C
  refine Go ?_;exact AA (Rets.of2 (ResV.tmp rfl rfl) (ResV.tmp rfl rfl) (Cn (Ae Zdw) (Ae Zdx)))
 by_cases B:kind=13
 .subst B
  refine Go ?_;exact AA (Rets.of2 (ResV.tmp rfl rfl) (ResV.tmp rfl rfl) (Cn (Ae Zdw) (Ae Zdx)))
 by_cases Y:kind=12
 .subst Y
  refine Go ?_;refine Dy 3 ?_;refine DA ?_;refine Go ?_;exact AA (Rets.of2 (ResV.tmp rfl rfl) (ResV.tmp rfl rfl) (Cn (Ae Zdw) (Ae Zdx)))
 refine Go ?_;exact AA (Rets.of2 (ResV.tmp rfl rfl) (ResV.tmp rfl rfl) (Cn (Ae Zdw) (Ae Zdx)))):p:=h
theorem Zad(h:p:=by
 have xC:sh.length=L.length:=by
  have:=DK T;rcases YaI sh.length L.length with Q | hge
  .have A:=xe sh.length Q
   rw[xa.tail _ (Yai _)]at A;cases A
  .omega
 have:=xu g O xa.ext λj y F N hF=>xa.facts j y F N hF (xe j (by have:=ER N;omega));rw[xC]at this
 have xG:FH g (L.take L.length) 0 a=a':=by
  obtain⟨p1,p2,p3,p4⟩:=Hy (g:=g) (L.take L.length) 0 a (λj k o z d X C W r=>by
   simp at X C;exact GG T ZeX (by have:=(Yae.1 C).1;omega) X C W r) (λo u d xj=>by
   rw[<-xC]at u;have B:=Yah.1 Y o u;simp only[xj,YaZ]at B;exact B)
  refine On (YdE λt=>?_) (p2.trans xa.adef.symm);by_cases M:∃(j:Nat) (o:Oper),L[j]? = some o/\o.dst=some t
  .obtain ⟨j,o,X,xj⟩:=M
   rw[p3 j o t ZdP xj,xa.a1 j o t ZeX X (xe j (Yae.1 X).1) xj];simp
  .rw [p4 t λj o X e=>M ⟨j,o,by simpa using X,e⟩,xa.a2 t λj o _ X _ e=>M ⟨j,o,X,e⟩]
 rw[xG]at this;exact this):p:=h
theorem Zam(h:p:=by
 obtain⟨k,B,rfl,J⟩:=hrel;by_cases V:k=0
 .subst V
  go_wp2;go_ret;refine⟨_,rfl,?_,Ext.refl _⟩;have q:=H.out.take (k:=0) (Yay _);rw[J.out];exact q
 .have O:0<k:=by omega
  obtain⟨b,o,rfl,E,L⟩:=S.out Zfr;have L:=L (k-1) Zfr;have Y:((k:Int)-1).toNat=k-1:=by omega
  by_cases F:l.getD (k-1) 0=0
  .rw [F]at L
   have F:=Af F;go_wp2;go_round
   case rel => exact ⟨k - 1, by omega, by go_num, by
    have q:k-1<l.length:=by rw[<-M.out];omega
    have K:l[k-1]=0:=by have:=F.out;simpa[q]using this
    have Q:=RD q K;rw[show k-1+1=k by omega]at Q;exact J.out.trans Q⟩
   case measure=>simp[intOf];omega
  .have j:((l.getD (k-1) 0:Nat):Int)≠0:=by omega
   generalize C:l.getD (k-1) 0=x at *;have C:=Af C;have W:((x:Int)==0)=false:=by simpa using F
   go_wp2;go_ret;refine⟨_,rfl,?_,Ext.refl _⟩;have q:=H.out.take (k:=k) Zfr;have R:k-1<l.length:=by rw[<-M.out];omega
   have K:l[k-1]≠0:=by have:=C.out;simp[R]at this;omega
   have Q:=MX R K;rw[show k-1+1=k by omega]at Q;rw[J.out,Q];exact q):p:=h
theorem Zae(h:p:=by
 have key:∀(l:List Bool) (n:Nat),n<=l.length->(∀j,j<n->l[j]? = some true)->(∀j,n<=j->j<l.length->l[j]? = some false)->(l.filter (!·)).length+n=l.length:=by
  intro l
  induction l with
  |nil=>intro n Z _ _;simp at Z;simp[Z]
  |cons b l xK=>
   intro n Z A B
   cases n with
   |zero=>
    have I:=B 0 (Yai _) ZbR;simp at I;subst I;have:=xK 0 ZbC (λj X=>by omega) (λj _ X=>by simpa using B (j+1) ZbC ZdP);simp at this ⊢;omega
   |succ n=>
    have I:=A 0 ZbC;simp at I;subst I;have:=xK n (by simpa using Z) (λj X=>by simpa using A (j+1) ZbC) (λj xF xz=>by simpa using B (j+1) ZbC (by simpa using xz));simp;omega
 have := key H.toList sh.length (by simpa [xa.size] using DK T) (fun j X => by
   have A:=xk j X;have xl:j<H.size:=by rw[xa.size];have:=DK T;omega
   simp[xl]at A;simp[xl,A]) (λj xF xz=>by
   have A:=xa.tail j xF;have xl:j<H.size:=by simpa using xz
   simp[xl]at A;simp[xl,A])
 have W:(H.toList.filter (!·)).length=f+1:=s;rw[W]at this;simpa[xa.size]using this):p:=h
theorem Zak(h:p:=by
 simp only[Yam,YcI]at o
 have l:∀(z:List (List (Nat×Nat))) (O:List (List Nat)) (i:Nat),z.length=O.length->(Gq i z O).length=z.length:=by
  intro z
  induction z with
  |nil=>intro O i _;cases O<;>rfl
  |cons e z u=>
   intro O i h
   cases O with
   |nil=>simp at h
   |cons b O=>simp[Gq,u O (i+1) Zdj]
 have I:=l z O 0 o.1;refine wp_region_ext A (Gq 0 z O) (R.map unF) B (by rw[I];exact d) ?_ ?_ ?_
 .intro F hF J E K q h
  obtain⟨G,S,rfl⟩:=YaD.1 hF;unfold unF at *;split at h
  .rename_i v;exact t G S v E K q h
  .exact h.elim
 .exact usteps_steps B (λk x C=>by have:=(Lq C).1;rwa [YaH]at this) (λk=>by rw[YaH]) (λk=>by rw[YaH]) o.1 V
 .intro g N Z p
  rw[I];refine W g N Z λj F hF=>?_
  have Q:j<(Gq 0 z O).length:=by
   rw[I];have:=(Yae.1 hF).1;omega
  have M:(Gq 0 z O)[j]? = some (Gq 0 z O)[j]:=Yab Q;have:=p j _ (unF F) M (by rw[Yav,hF];rfl);rw[(Lq M).1]at this;simpa[unF]using this):p:=h
theorem Zbd(h:p:=by
 have G:=Z T a E
 refine Go ?_;refine Bd [0] [] [] (G) (BX rfl) (λV=>(by repeat (first | exact AN (Rd.none (DZ O Y V)) | apply AH | apply PanQ.block | apply PanQ.loop):PanQ _ _) _) rfl rfl ZbB Zbz ZbH Zbx ZbD trivial rfl ?_;rintro _ _ ⟨x,U,K,A,rfl,rfl⟩;refine Kr ?_;refine Wq Ti ?_;refine MM (ao rfl) (ao rfl) rfl (Aa rfl) rfl (HC (λ_=>rfl) rfl O) rfl ?_;refine Go ?_;refine Ai (8-(k+1)) ZbC ⟨k+1,j++[x],U,by omega,rfl,by simp[W],A,DY O Y K,rfl⟩ ?_;exact Ac ZcT (by exact HpLe.cons (Ad rfl)<|HpLe.cons (Ak rfl)<|HpLe.cons (OwLe.varD (Yw W))<|HpLe.nil)):p:=h
theorem Zbh(h:p:=by
 refine Cx [0] (G) rfl ZbE rfl ZbB Zbz ZbH Zbx rfl ?_;rintro _ _ ⟨rfl,rfl⟩;refine Kr ?_;refine Wa<|AWl.nil<|Bg<|Yn<|AWp.region<|Wm ?_;refine Wq CL ?_;refine Wa<|AWl.nil ?_
 refine Ai (8-(k+1)) ZbC ⟨k+1,by omega,rfl,rfl⟩ ?_;exact Ac ZbY ZdU):p:=h
theorem ZaT(h:p:=by
 refine AU [0,1] [] [] (G) Zby rfl rfl ZbB Zbz ZbH Zbx ZbD trivial rfl ?_;rintro _ _ ⟨rfl,rfl⟩;refine Kr ?_;apply AWl.nil
 first | refine Bt RetsA.none rfl ?_ rfl | refine AW RetsA.none rfl ?_ rfl
 exact⟨rfl,rfl⟩):p:=h
theorem Zaf(h:p:=by
 have xh:∀j o,(L.take sh.length)[j]? = some o->j<sh.length/\L[j]? = some o:=λj o h=>by
  rw[YaK]at h;split at h
  .exact ⟨by assumption,h⟩
  .cases h
 obtain⟨p1,p2,p3,p4⟩:=Hy (g:=g) (L.take sh.length) 0 a (λj k o z d X C W r=>by
  obtain⟨xF,xz⟩:=xh j o X;obtain⟨xE,xB⟩:=xh k z C;exact GG T xF xE xz xB W r) (λo u d xj=>by
  have B:=Yah.1 Y o u;simp only[xj,YaZ]at B;exact B)
 refine On (YdE λt=>?_) (p2.trans xa.adef.symm);by_cases M:∃(j:Nat) (o:Oper),j<sh.length/\L[j]? = some o/\o.dst=some t
 .obtain ⟨j,o,xD,X,xj⟩:=M
  rw[p3 j o t (by rw[YaK,Yao xD];exact X) xj,xa.a1 j o t xD X (xk j xD) xj];simp
 .rw [p4 t λj o X e=>M ⟨j,o,(xh j o X).1,(xh j o X).2,e⟩,xa.a2 t λj o xD X _ e=>M ⟨j,o,xD,X,e⟩]):p:=h
theorem Zba(h:p:=by
 refine Cx [0] (G) rfl ZbE rfl ZbB Zbz ZbH Zbx rfl ?_;rintro _ _ ⟨rfl,rfl⟩;refine Kr ?_;refine Go ?_
 first | refine Bt (RetsA.one rfl) rfl ?_ rfl | refine AW (RetsA.one rfl) rfl ?_ rfl
 exact⟨rfl,rfl⟩):p:=h
theorem Zbq(h:p:=by
 refine Go ?_
 refine CutS.normal () (by revert q;simp[XP,eq3,A,B]) ?_;exact Ac Zdb ZcV):p:=h
theorem Zau(h:p:=by
 have z:=Be R.out k;have f:=Be o.out k;have u:wr.cell? ⟨w.heap.size,k,none⟩=some (.int .u32 (r.getD k 0:Nat)):=by rw[I.out.2.2.1.cell,Ec Zfs]
 have b:=I.out.2.2.1.frozen k;generalize C:J.getD k 0=x at *;generalize M:L.getD k 0=y at *;replace C:=Af C;replace M:=Af M;unfold BB at z f;go_wp2_with fail;refine(Iy _ J k x _ (Ha.out.ext I.out.2.2.2.2) C.out).mono ?_;rintro e K ⟨rfl,rfl⟩;go_wp2_with fail;refine(Iy _ L k y _ (Hb.out.ext I.out.2.2.2.2) M.out).mono ?_;rintro e K ⟨rfl,rfl⟩;go_wp2;exact⟨I.out.step O C.out M.out z f l ZcU ZcU,by simp[intOf];omega⟩):p:=h
theorem Zbp(h:p:=by
 refine Go ?_
 refine CutS.ret ?_;exact AA (Am (ResV.tmp rfl rfl) (Ae (congrArg (λz=>ex (.bool z)) (by revert q;simp[XP,eq3,A,B]<;>(intro q;exact .inl q)))))):p:=h
theorem ZaN(h:p:=by
 refine⟨u.le,u.ok,λi o J=>?_,λi j o x T J X b xd xh=>?_,λi o b J xd=>?_,λi J xi=>?_,?_⟩
 .rw [YbL]
  rcases O i o J with rfl | K
  .trivial
  .exact u.hp i o K
 .rcases O i o J with rfl | K
  .exact xd.elim
  .rcases O j x X with rfl | Q
   .exact xh.elim
   .exact u.sep i j o x T K Q b xd xh
 .rcases O i o J with rfl | K
  .exact xd.elim
  .exact u.own i o b K xd
 .have K:=u.hp _ _ xj _ (Sh (i:=0) (k:=i) (by rw [xa]; exact J) (by rw [YaH]; exact xi))
  rw[Iw i J,YaH]at K;exact K.2.symm
 .rw [YbL]
  exact Yca (Cu xj)):p:=h
theorem ZaB(h:p:=by
 obtain⟨A,B,K,Q,E,I⟩:=h;refine⟨⟨by simpa using A,Dq B k (YaR _ CS),by rw[b];exact K.set ZbC _,Q.set _ _,?_,λi J=>?_⟩,?_⟩
 .rw [Bf, Dw, Cq ZbC, Bf u, Bf v, M, <-I k (Yai _), F]
  have e:=YcK (z+y+S) BB
  have o:BB^k*((z+y+S)%BB)+BB^(k+1)*((z+y+S)/BB)=BB^k*(z+y+S):=by
   rw[Ybt,Yba,<-YaG,e]
  rw[YaG,YaG]at o;omega
 .rw [<-I i ZbC]
  have:k≠i:=by omega
  simp[YcR this]
 .have:=Ybu (show z+y+S<BB*2 by omega)
  omega):p:=h
theorem ZaJ(h:p:=by
 obtain ⟨_,A⟩:=KB L
 rw[Nat.sub_zero]at A;have K:t<R.length:=(Yae.1 A).1;have Q:=M t Y A
 have:(Z.toArray++Array.replicate (vQ.ntmps-Z.toArray.size) undef).getD t undef=Z.getD t undef:=by
  rw[YaA,Ydm ZiI];simp
 show AVr (H++[Ow.pin _]).length V s Y ((Z.toArray++Array.replicate (vQ.ntmps-Z.toArray.size) undef).getD t undef);rw[this,d];exact Q.mono (Yej _) λ_ _=>rfl):p:=h
theorem Zas(h:p:=by
 go_wp2;refine bodyPost_ret (v:=.agg #[.bool false,.slice A 0 c]) ZdY rfl ⟨_,_,_,_,rfl,⟨?_,?_⟩,?_⟩
 .rw [J.out,JS];rfl
 .rw [J.out,JS]
  show Words _ _ (Aw 0);rw[BJ];have L:=(Ty.new w #[Value.bool false,Value.slice none 0 0] 109).ext Z;exact(u.out.set L ZbH _).set (L.set _ _) ZbH _
 .exact ((((Ext.refl _).alloc _).trans Z).set (Yai _) _).set (Yai _) _):p:=h
theorem ZaY(h:p:=by
 cases G with
 |d x=>exact r
 |ptr i off=>exact r
 |own j=>
  show AVr H.length V s (bif Nat.beq j id then .d (ex (V id))else .own j) v
  cases E:Nat.beq j id with
  |true=>
   have e:j=id:=Yan E;subst e;exact r.2
  |false=>exact r
 |fn f J=>
  show AVr H.length V s (bif J.contains id then .d Cs else .fn f J) v
  cases E:J.contains id with
  |true=>trivial
  |false=>exact r):p:=h
theorem Zav(h:p:=by
 refine⟨by simp,λk B=>?_⟩;simp at B;have O:k%u.cells.size<u.cells.size:=YaR _ ZbC
 refine ⟨u.cells[k % u.cells.size]!, by simp [B], Yah.1 q _ (by
  have U:u.cells[k%u.cells.size]! = u.cells[k%u.cells.size]'O:=by simp[O]
  rw[U];simp),?_⟩
 have:Dd (List.replicate (len*G) Cs) k=Cs:=by simp[Dd,B]
 rw[this];trivial):p:=h
theorem Zbm(h:p:=by
 subst Y
 refine Go ?_;refine Dy 3 ?_;refine DA ?_;refine Go ?_;exact AA (Rets.of2 (ResV.tmp rfl rfl) (ResV.tmp rfl rfl) (Cn (Ae Zdw) (Ae Zdx)))):p:=h
theorem Zbl(h:p:=by
 subst Z
 refine Go ?_;refine Dy 5 ?_;refine DA ?_;refine Go ?_;exact AA (Rets.of2 (ResV.tmp rfl rfl) (ResV.tmp rfl rfl) (Cn (Ae Zdw) (Ae Zdx)))):p:=h
theorem ZaH(h:p:=by
 refine Go ?_
 exact AA (Am (ResV.cell rfl rfl (Aa rfl) rfl rfl rfl) (D.le.refl _))):p:=h
theorem Zab(h:p:=by
 obtain⟨q,A⟩:=h;obtain⟨I,n⟩:=StepsAt.at A;refine⟨by simp[I],λk E N s C=>?_⟩
 cases k with
 |zero=>
  simp at s C;subst s;subst C;exact⟨F,rfl,q⟩
 |succ k=>
  simp at s C;obtain⟨V,hF,B⟩:=n k E N s C;refine⟨V,by simpa using hF,?_⟩;have:i+(k+1)=i+1+k:=by omega
  rw[this];exact B):p:=h
theorem ZaE(h:p:=by
 have L:Ty r (w.heap.size+2) 109:=((Fy _ _ ZbR).alloc _).ext Z.out
 have u:Ty r (w.heap.size+3) 109:=(Fy _ _ ZbR).ext Z.out;exact(((P.out.set L ZbH _).set (L.set _ _) ZbH _).set ((u.set _ _).set _ _) ZbH _).set (((u.set _ _).set _ _).set _ _) ZbH _):p:=h
theorem ZaD(h:p:=by
 have L:Ty r (w.heap.size+2) 109:=((Fy _ _ ZbR).alloc _).ext Z.out
 have u:Ty r (w.heap.size+3) 109:=(Fy _ _ ZbR).ext Z.out;exact(((t.out.set L ZbH _).set (L.set _ _) ZbH _).set ((u.set _ _).set _ _) ZbH _).set (((u.set _ _).set _ _).set _ _) ZbH _):p:=h
theorem Zbs(h:p:=by
 have E:O=GU true O p:=by rw [GU, Yao (.inr (.inl ⟨rfl, i⟩))]
 refine Go ?_;refine Ai (L.length-(k+1)) ZbC ⟨k+1,by omega,rfl,rfl⟩ ?_;exact Ac Zcz Zcb):p:=h
theorem Zbr(h:p:=by
 have E:O=GU plain O p:=by rw [GU, Yao (.inl N)]
 refine Go ?_;refine Ai (L.length-(k+1)) ZbC ⟨k+1,by omega,rfl,rfl⟩ ?_;exact Ac Zcz Zcb):p:=h
theorem ZaV(h:p:=by
 obtain rfl:k=8:=by omega
 refine Go ?_
 first | refine Bt RetsA.none rfl ?_ rfl | refine AW RetsA.none rfl ?_ rfl
 exact⟨rfl,rfl⟩):p:=h
theorem Zai(h:p:=by
 rcases YaI j L.length with h | h
 .simp [h]
 .simp [h]):p:=h
theorem Zbg(h:p:=by
 first | refine Bt (RetsA.one rfl) rfl ?_ rfl | refine AW (RetsA.one rfl) rfl ?_ rfl
 exact⟨rfl,by rw[T];rfl⟩):p:=h
theorem Zbt(h:p:=by
 rintro w _ ⟨rfl,rfl⟩;by_cases c:g=0
 .refine Go ?_
  exact AA (Am (ResV.cell rfl rfl (Aa rfl) rfl rfl rfl) (D.le.refl _))
 .refine Go ?_
  exact AA (Am (ResV.cell rfl rfl (Aa rfl) rfl rfl rfl) (D.le.refl _))):p:=h
theorem ZaR(h:p:=by
 obtain rfl:k=P.length:=by omega
 refine Go ?_;exact AA (Am (ResV.tmp rfl rfl) (Ae (by rw[YaY])))):p:=h
theorem Zay(h:p:=by
 exact ⟨n, 0, List.replicate n 0, Yai _, rfl, rfl, h, by simp, Cv _, Blk.new _ _ _, by
 have B:K.drop n=[]:=YaN Zcl;rw[B];simp[val],(Ext.refl _).alloc _⟩):p:=h
theorem Zap(h:p:=by
 have L:=(Ty.new w #[Value.bool false,Value.slice none 0 0] 109).ext T.out
 have m:=m.out;rw[AK,show Ku true (-n).toNat=n by simp[Ku];omega]at m;exact(m.set L ZbH _).set (L.set _ _) ZbH _):p:=h
theorem Zaq(h:p:=by
 have L:=(Ty.new w #[Value.bool false,Value.slice none 0 0] 109).ext T.out
 have m:=m.out;rw[AK,show Ku false n.toNat=n by simp[Ku];omega]at m;exact(m.set L ZbH _).set (L.set _ _) ZbH _):p:=h
theorem Zaz(h:p:=by
 have B:=J.out.2.2.2.1;simp only[YaW]at B;rw[B];constructor
 .rw [YaM,YcU h,YbK Y,Ybf]
 .rw [YaM,Ydz,YaV Y]):p:=h
theorem ZaS(h:p:=by
 subst q;refine⟨rfl,λi o J=>?_,rfl,A⟩;have A:P.take (wH b).length=wH (b++e):=A;rw[A]at J
 match i,J with
 |0,J=>cases J;intro G B;rw[Yax.1 B];rfl
 |1,J=>cases J;trivial):p:=h
theorem ZaI(h:p:=by
 rw[YaQ]at J;split at J
 .exact .inl J
 .rename_i xc
  have:i-H.length=0:=by
   have:=Cu J;simp at this;omega
  rw[this]at J;exact .inr (Yag J).symm):p:=h
theorem Zbe(h:p:=by
 have:Nat.beq i id=false:=Ydi.2 λe=>by
  rw[Yan e]at h;simp[AV.avoid]at h
 show(bif Nat.beq i id then AV.d Cs else _)=_;rw[this];rfl):p:=h
theorem Zbk(h:p:=by
 rcases YaI j k with b | b
 .exact H j b
 .obtain rfl:j=k:=by omega
  exact h):p:=h
theorem Zbi(h:p:=by
 cases J;intro p F;obtain⟨k,B,rfl⟩:=Lv F
 match k,B with
 |0,_=>exact⟨Ych _,rfl⟩
 |1,_=>exact⟨YdY (Ych _),rfl⟩):p:=h
theorem Zan(h:p:=by
 exact⟨n,Yai _,rfl,Ext.refl _,λi K=>by
 have C:(Aw x).length<=i:=by rw[<-U.out];exact K
 have E:(Aw y).length<=i:=by rw[<-T.out];exact K
 simp[C,E]⟩):p:=h
theorem ZaQ(h:p:=by
 obtain rfl:k=P.length:=by omega
 refine Go ?_;exact AA (Rets.of2 (ResV.tmp rfl rfl) (ResV.tmp rfl rfl) (Cn (Ae (by rw[YaY];rfl)) (D.le.refl _)))):p:=h
theorem ZaP(h:p:=by
 rw [getD_set_ne false (λe=>E e.symm)]
 exact⟨.inr,λh=>h.resolve_left E⟩):p:=h
theorem ZaA(h:p:=by
 have:k≠i:=by omega
 simp[YcR this]):p:=h
theorem Zat(h:p:=by
 rw [Ni]
 have L:=(Ty.new w #[Value.bool false,Value.slice none 0 0] 109).ext Z;exact(u.out.set L ZbH _).set (L.set _ _) ZbH _):p:=h
theorem Zah(h:p:=by
 rcases YaI i sh.length with Q | hge
 .exact Q
 .have:=Lk T xa.size xa.closed hge u xf j0 ZbC
  rw[xs]at this;cases this):p:=h
theorem Zar(h:p:=by
 have L:Ty N (w.heap.size+2) 109:=(Fy _ _ ZbR).drew.ext Z.out
 exact(r.out.set L ZbH _).set (L.set _ _) ZbH _):p:=h
theorem ZaL(h:p:=by
 rcases xb i o J with q | rfl
 .rcases xb j x X with A | rfl
  .exact xg i j o x T q A b xd xh
  .exact xh.elim
 .exact xd.elim):p:=h
theorem Zaw(h:p:=by
 have O:=h y (by rw [S]; simp [Op.operands])
 rw[M]at O;exact⟨_,rfl,.inl (by show some (N y)=_;rw[show N y=_ from O])⟩):p:=h
theorem ZaX(h:p:=by
 have Q:=h y (by rw [Z]; simp [Op.operands])
 rw[M]at Q;exact⟨_,rfl,.inl (by show some (O y)=_;rw[show O y=_ from Q])⟩):p:=h
theorem ZaM(h:p:=by
 rw[YbM]at J;split at J
 .split at J
  .exact .inl (Yag J).symm
  .cases J
 .exact .inr J):p:=h
theorem Zao(h:p:=by
 subst l
 go_wp2;go_ret;exact⟨by rw[SX ZdT (λi=>S.out.2 i (Yay _))];rfl,S.out.1⟩):p:=h
theorem Zax(h:p:=by
 obtain rfl:k=8:=by omega
 go_wp2;go_ret;exact⟨rfl,Z.out⟩):p:=h
theorem ZaC(h:p:=by
 have:(List.replicate (m-(n+1)+1) 0).drop (m-(n+1)+1)=[]:=YaN ZbR
 rw[this];simp[val]):p:=h
theorem ZaK(h:p:=by
 intro p N
 obtain⟨k,q,rfl⟩:=Lv N;rw[xa]at q;rw[YaH];exact⟨by omega,Iw k q⟩):p:=h
theorem Zac(h:p:=by
 cases R:H.getD j false with
 |true=>rfl
 |false=>have:=SL (by rw[xa.size];exact X) R;omega):p:=h
theorem Zbo(h:p:=by
 refine Go ?_
 exact AA (Am (ResV.cell rfl rfl (Aa rfl) rfl rfl rfl) (Ae Zel))):p:=h
theorem ZaO(h:p:=by
 cases h:Nat.blt (vd+1000000) 1000000 with
 |false=>rfl
 |true=>rw[Ybq]at h;omega):p:=h
theorem ZaZ(h:p:=by
 have h:(!Nat.beq i n)=true:=h;have h:Nat.beq i n=false:=by simpa using h
 simp[NE,h]):p:=h
theorem ZaF(h:p:=by
 go_enter Tryz.func218,Tryz.ntmps218
 go_wp2;go_ret;exact⟨by simp[S.out],Z.out⟩):p:=h
theorem Zal(h:p:=by
 rcases YaL.1 hF with rfl | hF
 .exact h.1
 .exact StabAll.mem h.2 F hF):p:=h
theorem Zag(h:p:=by
 cases R:H.getD j false with
 |true=>rfl
 |false=>exact absurd ⟨j,X,R⟩ xn):p:=h
theorem ZaG(h:p:=by
 go_wp2
 go_ret;exact⟨by rw[G.out];rfl,Z.out.trans (Q.out.trans T.out)⟩):p:=h
theorem Zbw(h:p:=by
 first | refine Bt RetsA.none rfl ?_ rfl | refine AW RetsA.none rfl ?_ rfl
 exact⟨rfl,rfl⟩):p:=h
theorem Zbx(h:p:=by repeat (first | exact SelR.nil | refine SelR.var rfl ?_ | refine SelR.obj rfl ?_ | refine SelR.row rfl ?_ | refine SelR.varA rfl rfl rfl ?_)):p:=h
theorem Zby(h:p:=by first | exact Or.inl rfl | exact Or.inr ⟨by decide,rfl,by repeat (first | exact AvoidR.nil | refine Aj rfl ?_ | refine AvoidR.dead ?_ | refine AvoidR.row ?_ | refine AvoidR.obj ?_ | refine AvoidR.varD ?_ | refine AvoidR.varA rfl ?_ | refine AvoidR.pin rfl ?_)⟩):p:=h
theorem Zbz(h:p:=by repeat (first | exact ArgsC.nil | refine ArgsC.d rfl (D.le.refl _) ?_ | refine ArgsC.av rfl rfl ?_)):p:=h
theorem ZbA{α:Sort _}{r:α->Prop}(h:∀x,r x:=by intro _;first | exact AG (ah rfl) | exact Az (ah rfl) (Aa rfl) rfl (Aa rfl) rfl rfl | exact AF | exact As | (apply Ao;refine AI (Aa rfl) rfl rfl rfl ?_;(repeat ((first | refine⟨_,Ar (ah rfl),?_⟩ | refine⟨_,Po rfl,?_⟩);refine⟨_,rfl,?_⟩));refine⟨_,rfl,?_⟩;rfl)):∀x,r x:=h
theorem ZbB(h:p:=by first | exact .inl ⟨rfl,rfl,rfl⟩ | exact .inr (.inr ⟨rfl,rfl,rfl⟩)):p:=h
theorem ZbC(h:p:=by omega):p:=h
theorem ZbD(h:p:=by repeat (first | exact trivial | refine⟨⟨_,_,rfl⟩,?_⟩)):p:=h
theorem ZbE(h:p:=by repeat (first | exact AvoidR.nil | refine Aj rfl ?_ | refine AvoidR.dead ?_ | refine AvoidR.row ?_ | refine AvoidR.obj ?_ | refine AvoidR.varD ?_ | refine AvoidR.varA rfl ?_ | refine AvoidR.pin rfl ?_)):p:=h
theorem ZbF(h:p:=by refine HpLe.cons (OwLe.dead) ?_;refine HpLe.cons (OwLe.dead) ?_;exact Zjp):p:=h
theorem ZbG(h:p:=by kernel_rfl):p:=h
theorem ZbH(h:p:=by decide):p:=h
theorem ZbI(h:p:=by first | ((repeat (first | exact PlainHp.nil | refine PlainHp.var ?_ | refine PlainHp.row ?_ | refine PlainHp.dead ?_ | refine PlainHp.obj ?_ | refine PlainHp.pin rfl ?_ | refine PlainHp.varA rfl ?_));done) | fail):p:=h
theorem ZbJ(h:p:=by first | exact AG (ah rfl) | exact Az (ah rfl) (Aa rfl) rfl (Aa rfl) rfl rfl | exact AF | exact As):p:=h
theorem ZbK(h:p:=by first | omega | (simp only[Yac];omega)):p:=h
theorem ZbL(h:p:=by exact HpLe.cons (Ad rfl)<|Yr<|HpLe.cons (Ak rfl)<|HpLe.cons (Ad rfl)<|HpLe.nil):p:=h
theorem ZbM(h:p:=by repeat (first | exact DsLe.nil | refine DsLe.cons (D.le.refl _) ?_ | refine DsLe.cons (Ae (by first | rfl | (congr 2;omega))) ?_ | refine DsLe.cons AM ?_)):p:=h
theorem ZbN(h:p:=by first | (simp only[CV,Yat,Ybg];omega) | (simp[CV];done) | (simp[CV];omega)):p:=h
theorem ZbO(h:p:=by exact Yp<|FrLe.cons rfl (BY rfl)<|FrLe.cons rfl (AVle.own rfl)<|Yd<|Yd<|FrLe.nil):p:=h
theorem ZbP(h:p:=by rw[YcW];simp[DT,FN,Kl,EI,MV,Mi,<-Eh,and_assoc,Pv,Pn,PX,PY];try (simp[a]);try (intros;omega)):p:=h
theorem ZbQ(h:p:=by first | omega | (simp;omega)):p:=h
theorem ZbR(h:p:=by simp):p:=h
theorem ZbS(h:p:=by first | exact CP rfl | exact One.sl | exact One.ep):p:=h
theorem ZbT(h:p:=by exact Yp<|FrLe.cons rfl (BY rfl)<|Yd<|Yd<|Yd<|FrLe.nil):p:=h
theorem ZbU(h:p:=by first | ((repeat (first | exact ArgsLe.nil | refine ArgsLe.cons rfl (D.le.refl _) ?_ | refine ArgsLe.cons rfl AM ?_));done) | fail):p:=h
theorem ZbV(h:p:=by dsimp only;omega):p:=h
theorem ZbW(h:p:=by simp only[Yac];omega):p:=h
theorem ZbX(h:p:=by simp only[YaU];omega):p:=h
theorem ZbY(h:p:=by exact FrLe.cons rfl (AVle.own rfl)<|Yp<|Yd<|FrLe.nil):p:=h
theorem Zca(h:p:=by exact Yp<|Yd<|FrLe.nil):p:=h
theorem Zcb(h:p:=by exact HpLe.nil):p:=h
theorem Zcc(h:p:=by apply Ao;refine AI (Aa rfl) rfl rfl rfl ?_;refine⟨_,rfl,?_⟩;rfl):p:=h
theorem Zcd(h:p:=by exact Yp<|Yp<|FrLe.nil):p:=h
theorem Zce(h:p:=by exact FrLe.cons rfl (AVle.own rfl)<|Yd<|Yd<|FrLe.nil):p:=h
theorem Zcf(h:p:=by exact Yp<|Yd<|Yd<|FrLe.nil):p:=h
theorem Zcg(h:p:=by exact HpLe.cons (Ad rfl)<|HpLe.cons (Ak rfl)<|Yr<|HpLe.nil):p:=h
theorem Zch(h:p:=by exact Yp<|Yp<|Yd<|Yd<|Yd<|FrLe.nil):p:=h
theorem Zci(h:p:=by exact Yd<|Yd<|Yd<|Yd<|FrLe.nil):p:=h
theorem Zcj(h:p:=by refine Yd ?_;refine Yd ?_;(refine FrLe.cons rfl (AVle.le (Ae (by rw[V,<-E];unfold Bb;congr 1;simp[FM,Yec,Yeb]))) ?_);exact Yd<|FrLe.nil):p:=h
theorem Zck(h:p:=by rw[YcW];simp[Df,Gn,and_assoc]):p:=h
theorem Zcl(h:p:=by rw[<-U.out];omega):p:=h
theorem Zcm(h:p:=by exact HpLe.cons (Ad rfl)<|HpLe.cons (OwLe.row ZdA)<|HpLe.cons (Ak rfl)<|HpLe.nil):p:=h
theorem Zcn(h:p:=by rw[h];omega):p:=h
theorem Zco(h:p:=by exact Yp<|Yp<|Yp<|Yp<|Yd<|Yd<|Yp<|Yd<|FrLe.nil):p:=h
theorem Zcp(h:p:=by exact Yv<|Yv<|Yv<|Yv<|Yv<|HpLe.nil):p:=h
theorem Zcq(h:p:=by exact ArgsLe.cons rfl (D.le.refl _) ArgsLe.nil):p:=h
theorem Zcr(h:p:=by exact Yd<|Yd<|FrLe.cons rfl (AVle.own rfl)<|Yd<|Yd<|FrLe.nil):p:=h
theorem Zcs(h:p:=by exact HpLe.cons (Ad rfl)<|HpLe.cons (OwLe.row (by simp[DF]))<|HpLe.cons (Ak rfl)<|HpLe.nil):p:=h
theorem Zct(h:p:=by exact Yp<|Yp<|Yp<|Yp<|Yd<|Yd<|Yp<|Yd<|Yd<|FrLe.nil):p:=h
theorem Zcu(h:p:=by exact Yv<|Yv<|HpLe.nil):p:=h
theorem Zcv(h:p:=by exact HpLe.cons (OwLe.dead)<|Yv<|HpLe.nil):p:=h
theorem Zcw(h:p:=by refine HpLe.cons (OwLe.cells ZcJ) ?_;exact Zjp):p:=h
theorem Zcx(h:p:=by repeat (first | exact FrLe.nil | refine Yp ?_ | refine Yd ?_)):p:=h
theorem Zcy(h:p:=by repeat (first | exact DownR.nil | (apply DownR.varA;exact rfl) | apply DownR.row | apply DownR.obj | apply DownR.dead | (apply DownR.pin;exact rfl))):p:=h
theorem Zcz(h:p:=by refine Yd ?_;refine Yd ?_;refine FrLe.cons rfl (AVle.le (Ae (by rw[V,<-E]))) ?_;exact Yd<|FrLe.nil):p:=h
theorem ZcA(h:p:=by simp[Bo];omega):p:=h
theorem ZcB(h:p:=by exact Yv<|HpLe.nil):p:=h
theorem ZcC(h:p:=by rw[IntKind.wrap_u8];omega):p:=h
theorem ZcD(h:p:=by exact FrLe.cons rfl (AVle.own rfl)<|Yd<|Yd<|Yd<|FrLe.nil):p:=h
theorem ZcE(h:p:=by assumption):p:=h
theorem ZcF(h:p:=by refine HpLe.cons (OwLe.cells (CellsLe.cons (AVle.int ZbC) (CellsLe.cons (AVle.int ZbC) (CellsLe.cons (AVle.int ZbC) CellsLe.nil)))) ?_;refine HpLe.cons (OwLe.cells (CellsLe.cons (AVle.int ZbC) (CellsLe.cons (AVle.int ZbC) (CellsLe.cons (AVle.int ZbC) CellsLe.nil)))) ?_;exact HpLe.nil):p:=h
theorem ZcG(h:p:=by exact HpLe.cons (Ad rfl)<|HpLe.cons (Ak rfl)<|HpLe.cons (OwLe.row ZbR)<|HpLe.nil):p:=h
theorem ZcH(h:p:=by exact HpLe.cons (Ad rfl)<|HpLe.cons (OwLe.row ZbR)<|HpLe.cons (Ak rfl)<|HpLe.nil):p:=h
theorem ZcI(h:p:=by rw[EW ZbC];omega):p:=h
theorem ZcJ(h:p:=by repeat (first | exact CellsLe.nil | refine CellsLe.cons (AVle.d rfl) ?_ | refine CellsLe.cons (AVle.le AM) ?_)):p:=h
theorem ZcK(h:p:=by exact HpLe.cons (OwLe.row ZbR)<|HpLe.cons (Ak rfl)<|HpLe.nil):p:=h
theorem ZcL(h:p:=by rw[YbY ZbC,EW ZbC];omega):p:=h
theorem ZcM(h:p:=by simp<;>omega):p:=h
theorem ZcN(h:p:=by refine CSteps.s ?_;refine EX ?_;refine EX ?_;refine EX ?_;refine EX ?_;refine EX ?_;refine EX ?_;refine OT (g0) ?_;refine EX ?_;refine EX ?_;refine EX ?_;refine EX ?_;refine EX ?_;refine EX ?_;refine OT (V) ?_;refine CSteps.s ?_;exact CSteps.nil):p:=h
theorem ZcO(h:p:=by exact Yd<|Yd<|Yd<|FrLe.cons rfl (AVle.own rfl)<|Yd<|FrLe.nil):p:=h
theorem ZcP(h:p:=by exact HpLe.cons (OwLe.row ZbR)<|HpLe.cons (Ak rfl)<|HpLe.cons (Ad rfl)<|HpLe.nil):p:=h
theorem ZcQ(h:p:=by rw[F];simp[Op.operands]):p:=h
theorem ZcR(h:p:=by simp[Op.operands]):p:=h
theorem ZcS(h:p:=by rw[C];exact DZ O Y V):p:=h
theorem ZcT(h:p:=by exact Yp<|Yp<|Yd<|FrLe.nil):p:=h
theorem ZcU(h:p:=by rw[BF];omega):p:=h
theorem ZcV(h:p:=by exact HpLe.cons (OwLe.dead)<|HpLe.cons (OwLe.dead)<|HpLe.nil):p:=h
theorem ZcW(h:p:=by exact HpLe.cons (OwLe.row (by simp[DF]))<|HpLe.cons (Ak rfl)<|HpLe.cons (Ad rfl)<|HpLe.nil):p:=h
theorem ZcX(h:p:=by apply Ao;refine Dc (Aa rfl) (Aa rfl) rfl rfl rfl rfl rfl ?_;(repeat ((first | refine⟨_,Ar (ah rfl),?_⟩ | refine⟨_,Po rfl,?_⟩);refine⟨_,rfl,?_⟩));refine⟨_,rfl,?_⟩;rfl):p:=h
theorem ZcY(h:p:=by exact Yr<|HpLe.cons (Ak rfl)<|HpLe.cons (Ad rfl)<|HpLe.nil):p:=h
theorem ZcZ(h:p:=by simpa using B):p:=h
theorem Zda(h:p:=by rw[Ycq ZbC];omega):p:=h
theorem Zdb(h:p:=by exact Yd<|Yd<|Yd<|FrLe.nil):p:=h
theorem Zdc(h:p:=by simp[Op.operands,Call.operands]):p:=h
theorem Zdd(h:p:=by exact Yd<|Yp<|Yd<|Yd<|Yd<|Yd<|FrLe.nil):p:=h
theorem Zde(h:p:=by exact Yp<|Yd<|Yd<|Yd<|FrLe.nil):p:=h
theorem Zdf(h:p:=by exact Yp<|Yp<|Yp<|Yd<|FrLe.nil):p:=h
theorem Zdg(h:p:=by refine HpLe.cons (Ad rfl) ?_;refine HpLe.cons (Ak rfl) ?_;refine HpLe.cons (Ad rfl) ?_;(refine HpLe.cons (OwLe.varD (by rw[Mx W];rfl)) ?_);exact HpLe.nil):p:=h
theorem Zdh(h:p:=by exact Yp<|FrLe.cons rfl (AVle.own rfl)<|FrLe.nil):p:=h
theorem Zdi(h:p:=by refine Dc (Aa rfl) (Aa rfl) rfl rfl rfl rfl rfl ?_;refine⟨_,PartOk.one rfl (by exact CP rfl),?_⟩;refine⟨_,rfl,?_⟩;refine⟨_,rfl,?_⟩;rfl):p:=h
theorem Zdj(h:p:=by simpa using h):p:=h
theorem Zdk(h:p:=by exact HpLe.cons (OwLe.row (by simp[DF]))<|HpLe.cons (Ak rfl)<|HpLe.nil):p:=h
theorem Zdl(h:p:=by apply Yv;apply Yv;(refine HpLe.cons (OwLe.row ((IV QW _ ⟨c*(BA P k).c,CY m (BA P k).m⟩).trans (by rw[<-p];simp[Ur]))) ?_);exact HpLe.nil):p:=h
theorem Zdm(h:p:=by exact HpLe.cons (Ad rfl)<|HpLe.cons (Ad rfl)<|HpLe.cons (Ad rfl)<|HpLe.cons (Ad rfl)<|HpLe.cons (Ad rfl)<|HpLe.cons (OwLe.obj rfl)<|HpLe.nil):p:=h
theorem Zdn(h:p:=by simpa using I):p:=h
theorem Zdo(h:p:=by repeat (first | exact CellsLe.nil | refine CellsLe.cons (AVle.rows (id:=5) rfl) ?_ | refine CellsLe.cons (AVle.d rfl) ?_)):p:=h
theorem Zdp(h:p:=by exact ArgsLe.nil):p:=h
theorem Zdq(h:p:=by rw[I];exact ZiI):p:=h
theorem Zdr(h:p:=by exact HpLe.cons (Ad rfl)<|HpLe.cons (Ak rfl)<|HpLe.cons (Ad rfl)<|HpLe.cons (Ad rfl)<|HpLe.cons (OwLe.obj rfl)<|HpLe.nil):p:=h
theorem Zds(h:p:=by exact Yd<|Yd<|Yd<|Yd<|Yd<|Yd<|FrLe.nil):p:=h
theorem Zdt(h:p:=by exact Yr<|HpLe.nil):p:=h
theorem Zdu(h:p:=by rw[F];simp[Op.operands,Call.operands]):p:=h
theorem Zdv(h:p:=by simpa using q):p:=h
theorem Zdw(h:p:=by simp[KM, *]):p:=h
theorem Zdx(h:p:=by simp[KO, *]):p:=h
theorem Zdy(h:p:=by refine HpLe.cons (Ad rfl) ?_;(refine HpLe.cons (OwLe.row (by rw[J];simp)) ?_);exact HpLe.cons (Ak rfl)<|HpLe.nil):p:=h
theorem Zdz(h:p:=by first | exact One.sl | exact One.own rfl | exact One.ep):p:=h
theorem ZdA(h:p:=by rw[Es,<-Yaf]):p:=h
theorem ZdB(h:p:=by cases h):p:=h
theorem ZdC(h:p:=by exact Yd<|Yd<|Yp<|Yp<|Yd<|FrLe.nil):p:=h
theorem ZdE(h:p:=by simpa using A):p:=h
theorem ZdF(h:p:=by exact Yd<|Yp<|Yp<|Yd<|FrLe.nil):p:=h
theorem ZdG(h:p:=by repeat (first | exact DsLe.nil | refine DsLe.cons (D.le.refl _) ?_ | refine DsLe.cons AM ?_)):p:=h
theorem ZdH(h:p:=by rw[J.out.1];omega):p:=h
theorem ZdI(h:p:=by exact HpLe.cons (OwLe.varD rfl) (HpLe.cons (OwLe.varD rfl) (HpLe.cons (Ak rfl) HpLe.nil))):p:=h
theorem ZdJ(h:p:=by simp[execOp,W,go_sem]):p:=h
theorem ZdK(h:p:=by simp[execOp,o,go_sem]):p:=h
theorem ZdL(h:p:=by rw[Yac];omega):p:=h
theorem ZdM(h:p:=by repeat (first | exact HpLe.nil | apply Yv)):p:=h
theorem ZdN(h:p:=by rintro _ _ ⟨x,i,h,_⟩;rw[A]at h;cases h):p:=h
theorem ZdO(h:p:=by cases o<;>rfl):p:=h
theorem ZdP(h:p:=by simpa using X):p:=h
theorem ZdQ(h:p:=by simpa using s):p:=h
theorem ZdR(h:p:=by rw[Yaa,Yab X];exact Ybs _):p:=h
theorem ZdT(h:p:=by rw[<-U.out,<-T.out]):p:=h
theorem ZdU(h:p:=by exact HpLe.cons (OwLe.row ZdA)<|HpLe.cons (Ak rfl)<|HpLe.cons (Ad rfl)<|HpLe.nil):p:=h
theorem ZdV(h:p:=by exact ArgsLe.cons rfl (D.le.refl _) (ArgsLe.cons rfl (D.le.refl _) ArgsLe.nil)):p:=h
theorem ZdW(h:p:=by exact Yd<|Yd<|Yp<|Yd<|Yd<|Yd<|FrLe.nil):p:=h
theorem ZdX(h:p:=by exact Yp<|Yp<|Yp<|Yd<|Yd<|Yd<|FrLe.nil):p:=h
theorem ZdY(h:p:=by simp[results,Tryz.results239,go_sem,F]):p:=h
theorem ZdZ(h:p:=by show 7*i<=64;omega):p:=h
theorem Zea(h:p:=by exact h):p:=h
theorem Zeb(h:p:=by exact FrLe.cons rfl (AVle.ptr rfl) (FrLe.cons rfl (AVle.ptr rfl) FrLe.nil)):p:=h
theorem Zec(h:p:=by rw[<-T.out];omega):p:=h
theorem Zed(h:p:=by rw[S.out.1];omega):p:=h
theorem Zee(h:p:=by rw[p.out.1];omega):p:=h
theorem Zef(h:p:=by rw[G];simp[Op.operands]):p:=h
theorem Zeg(h:p:=by rw[N];simp[Op.operands]):p:=h
theorem Zeh(h:p:=by simpa using K):p:=h
theorem Zei(h:p:=by show 0<v.getD (m+1) 0;have:v.getD (m+2-1) 0=v.getD (m+1) 0:=rfl;omega):p:=h
theorem Zej(h:p:=by exact Yd<|Yd<|Yd<|Yd<|Yd<|FrLe.cons rfl (AVle.own rfl)<|Yd<|FrLe.nil):p:=h
theorem Zek(h:p:=by exact Yp<|Yp<|Yd<|FrLe.cons rfl (AVle.own rfl)<|Yd<|Yd<|Yd<|FrLe.nil):p:=h
theorem Zel(h:p:=by simp[TL, *]):p:=h
theorem Zem(h:p:=by simp[execOp,K,go_sem]):p:=h
theorem Zen(h:p:=by exact HpLe.cons (OwLe.dead)<|HpLe.cons (OwLe.dead)<|Yv<|HpLe.nil):p:=h
theorem Zeo(h:p:=by refine HpLe.cons (OwLe.row (IV QW R (BA P i))) ?_;exact HpLe.nil):p:=h
theorem Zep(h:p:=by refine HpLe.cons (OwLe.row (IV QW R (BA Q k))) ?_;exact HpLe.nil):p:=h
theorem Zeq(h:p:=by rw[m];exact YeN _ _):p:=h
theorem Zer(h:p:=by simp only[BB,Nat.pow_one];omega):p:=h
theorem Zes(h:p:=by simp[rlR, *]):p:=h
theorem Zet(h:p:=by exact HpLe.cons (OwLe.row ZdA)<|HpLe.cons (Ak rfl)<|HpLe.nil):p:=h
theorem Zeu(h:p:=by exact Yd<|Yp<|Yp<|FrLe.cons rfl (AVle.own rfl)<|Yd<|FrLe.nil):p:=h
theorem Zev(h:p:=by exact Yv<|Yv<|Yv<|Yv<|Yv<|HpLe.cons (OwLe.obj rfl)<|HpLe.nil):p:=h
theorem Zew(h:p:=by rw [<-U.out];omega):p:=h
theorem Zex(h:p:=by show _ ≤ W.heap.size;omega):p:=h
theorem Zey(h:p:=by exact Yp<|Yp<|Yp<|Yp<|Yd<|Yd<|Yp<|Yd<|Yd<|Yp<|Yd<|FrLe.nil):p:=h
theorem Zez(h:p:=by rw[e]):p:=h
theorem ZeA(h:p:=by simpa using C):p:=h
theorem ZeB(h:p:=by exact FrLe.cons rfl (AVle.own rfl)<|Yp<|Yd<|Yd<|FrLe.nil):p:=h
theorem ZeC(h:p:=by exact Yd<|Yd<|FrLe.cons rfl (AVle.own rfl)<|Yd<|FrLe.nil):p:=h
theorem ZeD(h:p:=by rw[Yan s,show m+1-m-1=0 by omega];rfl):p:=h
theorem ZeE(h:p:=by exact HpLe.cons (Ad rfl)<|HpLe.cons (Ak rfl)<|HpLe.nil):p:=h
theorem ZeF(h:p:=by rw[J]at G;exact G):p:=h
theorem ZeG(h:p:=by rw[Y.out.1];omega):p:=h
theorem ZeH(h:p:=by rw[IntKind.wrap_i64];omega):p:=h
theorem ZeI(h:p:=by exact FrLe.cons rfl (Gi rfl (D.le.refl _))<|FrLe.nil):p:=h
theorem ZeJ(h:p:=by simpa[Ybq]using N):p:=h
theorem ZeK(h:p:=by simpa[Ybq]using c):p:=h
theorem ZeL(h:p:=by simpa[Ybq]using g):p:=h
theorem ZeM(h:p:=by exact FrLe.cons rfl (AVle.own rfl)<|Yd<|FrLe.nil):p:=h
theorem ZeN(h:p:=by rw[<-e];exact J):p:=h
theorem ZeO(h:p:=by rw[BF];exact xg):p:=h
theorem ZeQ(h:p:=by rw[Q];simp[Op.operands]):p:=h
theorem ZeR(h:p:=by rw[Y.out.2.2.2.1];omega):p:=h
theorem ZeT(h:p:=by rw[show rgP kind u m v X=false from q];simp[Z]):p:=h
theorem ZeU(h:p:=by simp[execOp,e6,go_sem]):p:=h
theorem ZeV(h:p:=by simp[execOp,e7,go_sem]):p:=h
theorem ZeW(h:p:=by simp[execOp,e8,go_sem]):p:=h
theorem ZeX(h:p:=by have:=(Yae.1 X).1;omega):p:=h
theorem ZeY(h:p:=by rw[Ybq,Yan s];omega):p:=h
theorem ZeZ(h:p:=by rw[Ybx,YaO];omega):p:=h
theorem Zfa(h:p:=by simp[execOp,resolve,invoke,p,xc,xe,go_sem]):p:=h
theorem Zfb(h:p:=by rw[A,v];omega):p:=h
theorem Zfc(h:p:=by simpa using O):p:=h
theorem Zfd(h:p:=by rw[YbR,Yde 1];exact G):p:=h
theorem Zfe(h:p:=by simp[execOp,resolve,invoke,p,e9,go_sem]):p:=h
theorem Zff(h:p:=by exact One.sl):p:=h
theorem Zfg(h:p:=by exact Yd<|Yd<|Yd<|Yp<|Yd<|Yd<|FrLe.nil):p:=h
theorem Zfh(h:p:=by exact Yd<|Yp<|Yp<|Yd<|Yd<|Yd<|FrLe.nil):p:=h
theorem Zfi(h:p:=by simp[results,Tryz.results139,go_sem,A]):p:=h
theorem Zfj(h:p:=by simp[results,Tryz.results141,go_sem,A]):p:=h
theorem Zfk(h:p:=by simp[results,Tryz.results236,go_sem,F]):p:=h
theorem Zfl(h:p:=by simp[results,Tryz.results290,go_sem,U]):p:=h
theorem Zfm(h:p:=by simp[results,Tryz.results291,go_sem,E]):p:=h
theorem Zfn(h:p:=by rw[G];simp[Op.operands,Call.operands]):p:=h
theorem Zfo(h:p:=by rw[N];simp[Op.operands,Call.operands]):p:=h
theorem Zfp(h:p:=by rw[w];simp[Op.operands,Call.operands]):p:=h
theorem Zfq(h:p:=by show m<=(e.hp++[_]).length;exact ZiI):p:=h
theorem Zfr(h:p:=by rw[<-M.out];omega):p:=h
theorem Zfs(h:p:=by rw[I.out.1];omega):p:=h
theorem Zft(h:p:=by rw[Y];simp[Co,Cp]):p:=h
theorem Zfu(h:p:=by rw[Ck Cy O,<-Yaf];rfl):p:=h
theorem Zfv(h:p:=by rw[Ybr h];decide):p:=h
theorem Zfw(k:q)(h:Zaa q->p:=by intro qq;refine HYSteps.cons (.q rfl (Az rfl (Aa rfl) rfl (Aa rfl) rfl rfl)) ?_;refine HYSteps.cons (.q rfl (BU rfl rfl (Aa rfl) rfl rfl)) ?_;exact qq.a):p:=h ⟨k⟩
theorem Zfx(k:q)(h:Zaa q->p:=by intro qq;refine Go ?_;refine Bd [0] [] [] (G) (BX rfl) (λV=>(by repeat (first | exact AN (HL V) | apply AH | apply PanQ.block | apply PanQ.loop):PanQ _ _) _) rfl rfl ZbB Zbz ZbH Zbx ZbD trivial rfl ?_;exact qq.a):p:=h ⟨k⟩
theorem Zfy(k:q)(h:Zaa q->p:=by intro qq;refine Go ?_;refine Bd [0] [0] [] (G) (BX rfl) (λV=>(by repeat (first | exact AN ZcS | apply AH | apply PanQ.block | apply PanQ.loop):PanQ _ _) _) rfl rfl ZbB Zbz ZbH Zbx ZbD trivial rfl ?_;exact qq.a):p:=h ⟨k⟩
theorem Zfz(h:p:=by refine Go ?_;exact Yf):p:=h
theorem ZfA(k:q)(h:Zaa q->p:=by intro qq;refine Go ?_;refine FinP.ret (RetsA.d (Am (ResV.cell rfl rfl (Aa rfl) rfl rfl rfl) (D.le.refl _))) rfl ?_ rfl;exact qq.a):p:=h ⟨k⟩
theorem ZfB(k:q)(h:Zaa q->p:=by intro qq;refine Go ?_;refine Bd [0] [] [] (G) (BX rfl) (λV=>(by repeat (first | exact AN (Rd.none V) | apply AH | apply PanQ.block | apply PanQ.loop):PanQ _ _) _) rfl rfl ZbB Zbz ZbH Zbx ZbD trivial rfl ?_;exact qq.a):p:=h ⟨k⟩
theorem ZfC(k:q)(h:Zaa q->p:=by intro qq;refine HYSteps.cons (.s rfl rfl rfl ZbH rfl rfl (Aa rfl)) ?_;refine HYSteps.cons (.q rfl (Bm rfl)) ?_;exact qq.a):p:=h ⟨k⟩
theorem ZfD(k:q)(h:Zaa q->p:=by intro qq;refine Go ?_;refine Ai (L.length-(k+1)) ZbC ⟨k+1,by omega,rfl,rfl⟩ ?_;exact qq.a):p:=h ⟨k⟩
theorem ZfF(h:p:=by refine Go ?_;exact AA (Am (ResV.cell rfl rfl (Aa rfl) rfl rfl rfl) (D.le.refl _))):p:=h
theorem ZfH(h:p:=by refine Go ?_;exact AA (Am (ResV.cell rfl rfl (Aa rfl) rfl rfl rfl) (Ch ZbM))):p:=h
theorem ZfJ(k:q)(h:Zaa q->p:=by intro qq;refine Go ?_;refine Wq (HF (ao rfl) (ao rfl) (Aa rfl) (Aa rfl) rfl O (Do (λ_=>rfl) O)) ?_;exact qq.a):p:=h ⟨k⟩
theorem ZfL(k:q)(h:Zaa q->p:=by intro qq;refine Zfw ?_;refine HYSteps.cons (.q rfl (BO rfl C (ArgsLe.cons rfl (D.le.refl _) (ArgsLe.cons rfl (D.le.refl _) (ArgsLe.cons rfl (D.le.refl _) (ArgsLe.cons rfl (D.le.refl _) (ArgsLe.cons rfl (D.le.refl _) ArgsLe.nil))))))) ?_;exact qq.a):p:=h ⟨k⟩
theorem ZfM(k:q)(h:Zaa q->p:=by intro qq;refine Go ?_;refine EJ (λT=>AE) ?_;exact qq.a):p:=h ⟨k⟩
theorem ZfN(k:q)(h:Zaa q->p:=by intro qq;refine Wq (Dn (r:=((k+1:Nat):Int)) (ao rfl) (ao rfl) ZcI) ?_;refine Go ?_;exact qq.a):p:=h ⟨k⟩
theorem ZfP(k:q)(h:Zaa q->p:=by intro qq;refine Go ?_;refine AU [0,1] [] [] (c) Zby rfl rfl ZbB Zbz ZbH Zbx ZbD trivial rfl ?_;exact qq.a):p:=h ⟨k⟩
theorem ZfQ(k:q)(h:Zaa q->p:=by intro qq;refine Zfw ?_;refine HYSteps.cons (.q rfl (BO rfl q (ArgsLe.cons rfl (D.le.refl _) (ArgsLe.cons rfl (D.le.refl _) ArgsLe.nil)))) ?_;exact qq.a):p:=h ⟨k⟩
theorem ZfR(k:q)(h:Zaa q->p:=by intro qq;refine Kr ?_;refine Go ?_;exact qq.a):p:=h ⟨k⟩
theorem ZfS(k:q)(h:Zaa q->p:=by intro qq;refine Wq (EU (ao rfl)) ?_;refine AU [0,1] [] [] (G) Zby rfl rfl ZbB Zbz ZbH Zbx ZbD trivial rfl ?_;exact qq.a):p:=h ⟨k⟩
theorem ZfT(k:q)(h:Zaa q->p:=by intro qq;refine Go ?_;refine Ai (P.length-(k+1)) ZbC ⟨k+1,by omega,rfl,rfl⟩ ?_;exact qq.a):p:=h ⟨k⟩
theorem ZfU(k:q)(h:Zaa q->p:=by intro qq;refine DA ?_;refine Go ?_;exact qq.a):p:=h ⟨k⟩
theorem ZfV(k:q)(h:Zaa q->p:=by intro qq;refine Kr ?_;refine Wq (Cb (ao rfl) (Aa rfl) (Aa rfl) rfl rfl rfl rfl rfl) ?_;exact qq.a):p:=h ⟨k⟩
theorem ZfW(h:p:=by refine Go ?_;exact AA (Am (ResV.cell rfl rfl (Aa rfl) rfl rfl rfl) (Ae Zel))):p:=h
theorem ZfX(h:p:=by refine Go ?_;exact AA (Am (ResV.cell rfl rfl (Aa rfl) rfl rfl rfl) (Ae Zes))):p:=h
theorem ZfZ(h:p:=by have o:i (.tmp 2)=.pointer (some ⟨w.heap.size,0,none⟩):=t 2 ZbH;exact AD ZdK rfl):p:=h
theorem Zgc(h:p:=by refine Ai (s.length-(k+1)) ZbC ⟨k+1,by omega,rfl,rfl⟩ ?_;exact Ac Zch ZcF):p:=h
theorem Zge(h:p:=by refine ZfC ?_;exact HYSteps.nil):p:=h
theorem Zgg(k:q)(h:Zaa q->p:=by intro qq;refine HYSteps.cons (.q rfl (Az rfl (Aa rfl) rfl (Aa rfl) rfl rfl)) ?_;refine HYSteps.cons (.q rfl (Az rfl (Aa rfl) rfl (Aa rfl) rfl rfl)) ?_;exact qq.a):p:=h ⟨k⟩
theorem Zgh(h:p:=by rw[Yaa,Yab h];exact Ybs h):p:=h
theorem Zgi(h:p:=by simp[IntKind.wrap,IntKind.bits,IntKind.signed];omega):p:=h
theorem Zgj(h:p:=by refine Ai (L.length-(k+1)) ZbC ⟨k+1,by omega,rfl,rfl⟩ ?_;exact Ac Zcj Zcb):p:=h
theorem Zgk(k:q)(h:Zaa q->p:=by intro qq;refine HYSteps.cons (.q rfl (Az rfl (Aa rfl) rfl (Aa rfl) rfl rfl)) ?_;refine HYSteps.cons (.q rfl (Mc rfl rfl (Aa rfl) rfl rfl)) ?_;exact qq.a):p:=h ⟨k⟩
theorem Zgl(k:q)(h:Zaa q->p:=by intro qq;refine Zfw ?_;refine HYSteps.cons (.q rfl (BO rfl K (ArgsLe.cons rfl (D.le.refl _) (ArgsLe.cons rfl (D.le.refl _) ArgsLe.nil)))) ?_;exact qq.a):p:=h ⟨k⟩
theorem Zgm(k:q)(h:Zaa q->p:=by intro qq;refine Bi (KZ 1 0 5 1 rfl rfl ZbH ZbC rfl rfl rfl rfl) ?_;refine AU [1,2] [] [] (K) Zby rfl rfl ZbB Zbz ZbH Zbx ZbD trivial rfl ?_;exact qq.a):p:=h ⟨k⟩
theorem Zgn(h:p:=by refine CutS.normal (EI k e&&decide (((e.a.length:Nat):Int)<=64)&&decide (∀x∈e.a,IvP x)&&decide (WW k.n e.r),⟨e.n,e.cof,[],[],[],[],[],⟨no8,[],λ_=>[]⟩,[],e.sq,e.x,e.b⟩) ZbP ?_;exact Ac Zca ZbF):p:=h
theorem Zgo(k:q)(h:Zaa q->p:=by intro qq;refine Ds ?_;refine Gb (λff G=>Ic (l:=b) (f:=λz:Nat=>[ex (.int .u8 (z:Nat))]) rfl (ah rfl) (Aa rfl) (Aa rfl) rfl ZbC) ?_;exact qq.a):p:=h ⟨k⟩
theorem Zgp(k:q)(h:Zaa q->p:=by intro qq;refine Go ?_;refine AU [0,1] [] [] (q) Zby rfl rfl ZbB Zbz ZbH Zbx ZbD trivial rfl ?_;exact qq.a):p:=h ⟨k⟩
theorem Zgq(k:q)(h:Zaa q->p:=by intro qq;refine Go ?_;refine AU [0,1] [] [] (A) Zby rfl rfl ZbB Zbz ZbH Zbx ZbD trivial rfl ?_;exact qq.a):p:=h ⟨k⟩
theorem Zgr(k:q)(h:Zaa q->p:=by intro qq;refine Zfw ?_;refine HYSteps.cons (.q rfl (BO rfl a (ArgsLe.cons rfl (D.le.refl _) (ArgsLe.cons rfl (D.le.refl _) (ArgsLe.cons rfl (D.le.refl _) (ArgsLe.cons rfl (D.le.refl _) (ArgsLe.cons rfl (D.le.refl _) ArgsLe.nil))))))) ?_;exact qq.a):p:=h ⟨k⟩
theorem Zgs(k:q)(h:Zaa q->p:=by intro qq;refine Zfw ?_;refine HYSteps.cons (.q rfl (BO rfl K (ArgsLe.cons rfl (D.le.refl _) (ArgsLe.cons rfl (D.le.refl _) (ArgsLe.cons rfl (D.le.refl _) (ArgsLe.cons rfl (D.le.refl _) (ArgsLe.cons rfl (D.le.refl _) ArgsLe.nil))))))) ?_;exact qq.a):p:=h ⟨k⟩
theorem Zgt(k:q)(h:Zaa q->p:=by intro qq;refine HYSteps.cons (.q rfl (Az rfl (Aa rfl) rfl (Aa rfl) rfl rfl)) ?_;refine Zfw ?_;exact qq.a):p:=h ⟨k⟩
theorem Zgu(h:p:=by have A:=xO.out _ _ E.out.2.2 (by rw[BF];exact xe.out);exact⟨q-1,by go_num,by have:=A.1;rw[BF]at this;exact this,xh.out _ _ E.out.2.2 E.out.2.1 A.1 A.2,j.out.1,j.out.2.drewN _⟩):p:=h
theorem Zgv(k:q)(h:Zaa q->p:=by intro qq;refine HYSteps.cons (.q rfl (BO rfl G (ArgsLe.cons rfl (D.le.refl _) (ArgsLe.cons rfl (D.le.refl _) ArgsLe.nil)))) ?_;refine HYSteps.cons (.q rfl (Ep (r:=((g:Nat):Int)) rfl rfl ((DJ (AR V 4) (j:=2) ZbC).trans b))) ?_;exact qq.a):p:=h ⟨k⟩
theorem Zgw(h:p:=by refine CutS.normal (decide (((e.sq.length:Nat):Int)<=64)&&decide (∀x∈e.sq,SqP k.n x)&&Kl k e,⟨e.n,[],e.g,e.o,e.c,e.q,e.s,e.r,e.a,[],e.x,e.b⟩) ZbP ?_;exact Ac Zca ZbF):p:=h
theorem Zgx(h:p:=by refine CutS.normal (decide (Vu k.n 12 p),⟨0,[],n,d,r,o,l,s,b⟩) Zck ?_;exact Ac Zca ZbF):p:=h
theorem Zgy(k:q)(h:Zaa q->p:=by intro qq;refine ZfQ ?_;refine HYSteps.cons (.q rfl (Ep (r:=((g:Nat):Int)) rfl rfl ((DJ (AR V 4) (j:=2) ZbC).trans J))) ?_;exact qq.a):p:=h ⟨k⟩
theorem Zgz(h:p:=by have A:=xx.out _ _ d.out.2.2 (by rw[BF];exact j.out);exact⟨q-1,by go_num,by have:=A.1;rw[BF]at this;exact this,k.out _ _ d.out.2.2 d.out.2.1 A.1 A.2,a.out.drewN _⟩):p:=h
theorem ZgA(k:q)(h:Zaa q->p:=by intro qq;refine HYSteps.cons (.q rfl (Bh rfl (Aa rfl))) ?_;refine HYSteps.cons (.n rfl (Aa rfl) rfl rfl rfl rfl rfl) ?_;exact qq.a):p:=h ⟨k⟩
theorem ZgB(h:p:=by go_wp2;exact⟨⟨q-1,r+V1,by go_num,by go_num,by have:=xe.out;omega,by have:=I.out;omega,⟨E.out.2.2,E.out.2.1⟩,j.out.1,j.out.2.drewN _⟩,by simp[intOf];omega⟩):p:=h
theorem ZgE(k:q)(h:Zaa q->p:=by intro qq;refine Go ?_;refine Wq (EU (ao rfl)) ?_;exact qq.a):p:=h ⟨k⟩
theorem ZgF(h:p:=by go_wp2;exact⟨⟨q-1,r+f,by go_num,by go_num,by have:=j.out;omega,by have:=C.out;omega,⟨d.out.2.2,d.out.2.1⟩,a.out.drewN _⟩,by simp[intOf];omega⟩):p:=h
theorem ZgI(h:p:=by go_wp2;exact⟨⟨j+1,xc,by simp,xe.out (U.out.2 ⟨by omega,by omega,λh=>by omega⟩),u.out _ (by rw[xg.out];rfl),T.out _⟩,by simp[intOf];omega⟩):p:=h
theorem ZgL(h:p:=by have Q:Hid (((r:Int)*4294967296+x)/d%4294967296=((r*4294967296+x)/d:Nat)/\((r:Int)*4294967296+x)%d=((r*4294967296+x)%d:Nat)):=A0Y Y z j;go_wp2;refine⟨⟨k,(r*4294967296+x)%d,_,by omega,rfl,by rw[Q.out.2],YaR _ h,J.out.step C U.out.symm E.out h Y j z Q.out.1⟩,by simp[intOf]⟩):p:=h
theorem ZgM(h:p:=by have heq:(Op.equalIn Op.maxDepth t (.bool o) (.bool uo)).run P w=.ok (o==uo) w:=run_equalIn_bool w 9999 t o uo e;simp[eqGuard,binOp,Op.equal,heq]):p:=h
theorem ZgN(h:p:=by refine Go ?_;exact AA (Zy (ResV.cell rfl rfl (Aa rfl) rfl rfl rfl) (ResV.cell rfl rfl (Aa rfl) rfl rfl rfl) (ResV.tmp rfl rfl) (D.le.refl _))):p:=h
theorem ZgO(h:p:=by have heq:(Op.equalIn Op.maxDepth 112 (.agg (c8 a)) (.agg (c8 b))).run Tryz.prog w=.ok (OS a b) w:=Jm a b w;simp[eqGuard,binOp,Op.equal,heq]):p:=h
theorem ZgQ(h:p:=by refine HYSteps.cons (.n rfl (Aa rfl) rfl rfl rfl rfl rfl) ?_;refine HYSteps.cons (.q rfl (Bm rfl)) ?_;refine HYSteps.cons (.q rfl (Bm rfl)) ?_;exact Zge):p:=h
theorem ZgR(k:q)(h:Zaa q->p:=by intro qq;refine Go ?_;refine Ai (2-(k+1)) ZbC ⟨k+1,by omega,rfl,rfl⟩ ?_;exact qq.a):p:=h ⟨k⟩
theorem ZgS(h:p:=by refine Ai (5-(k+1)) ZbC ⟨k+1,by omega,rfl,rfl⟩ ?_;exact Ac Zdd Zcv):p:=h
theorem ZgT(h:p:=by rw[<-F]at Y;exact⟨_,K,Y,M,R,e4,e5,λb E q=>by cases E;exact e6 q,λb E _=>e7 b E,λb E=>by cases E;exact .inr (Yai _)⟩):p:=h
theorem ZgU(k:q)(h:Zaa q->p:=by intro qq;refine Kr ?_;refine ZfD ?_;exact qq.a):p:=h ⟨k⟩
theorem ZgV(h:p:=by rw[YaO];omega):p:=h
theorem ZgW(k:q)(h:Zaa q->p:=by intro qq;rw[Tryz.ntmps24];refine Go ?_;refine Dy 9 ?_;refine DA ?_;refine⟨_,HStep.q rfl (EA 3 rfl rfl ZbC),?_⟩;exact qq.a):p:=h ⟨k⟩
theorem ZgX(h:p:=by rintro e k ⟨j,P,m,a,rfl,xb,S⟩;exact⟨_,rfl,S,j,P,m,a,rfl,by rw[AK,AK,AK,h.out.bool_eq,J.out.bool_eq,VJ]at xb;exact xb⟩):p:=h
theorem ZgY(h:p:=by refine Go ?_;exact AA (Rets.of2 (ResV.cell rfl rfl (Aa rfl) rfl rfl rfl) (ResV.tmp rfl rfl) (Cn (D.le.refl _) (D.le.refl _)))):p:=h
theorem ZgZ(h:p:=by refine Du (ao rfl) ?_;exact(by repeat (first | exact AN (b.symm) | apply AH | apply PanQ.block | apply PanQ.loop):PanQ _ _) _):p:=h
theorem Zha(h:p:=by go_ret;exact⟨by rw[SW (k:=q) ZdT Zcl (λi K=>S.out.2 i K) (by rw[j.out,p.out];exact hgt)];rfl,(S.out.1.drewN _).drewN _⟩):p:=h
theorem Zhc(k:q)(h:Zaa q->p:=by intro qq;refine ZfR ?_;refine AU [0,1] [] [] (q) Zby rfl rfl ZbB Zbz ZbH Zbx ZbD trivial rfl ?_;exact qq.a):p:=h ⟨k⟩
theorem Zhd(k:q)(h:Zaa q->p:=by intro qq;refine Go ?_;refine AU [0,1] [] [] (G) Zby rfl rfl ZbB Zbz ZbH Zbx ZbD trivial rfl ?_;exact qq.a):p:=h ⟨k⟩
theorem Zhe(h:p:=by rw[Yaa,Yab B,e];rfl):p:=h
theorem Zhf(h:p:=by refine Wq (Ep (r:=((k:Nat):Int)) (ao rfl) (ao rfl) ((DJ (AR V 1%((2^3:Nat):Int)) (j:=2) ZbC).trans ZbC)) ?_;exact ZfH):p:=h
theorem Zhg(k:q)(h:Zaa q->p:=by intro qq;rw[Tryz.ntmps49];refine Go ?_;exact qq.a):p:=h ⟨k⟩
theorem Zhh(h:p:=by refine DA ?_;exact Zfz):p:=h
theorem Zhi(h:p:=by refine Go ?_;exact AA (Am (ResV.tmp rfl rfl) (Ae (by rw[d])))):p:=h
theorem Zhj(k:q)(h:Zaa q->p:=by intro qq;refine Go ?_;refine Wq (EO (ao rfl) (Aa rfl)) ?_;exact qq.a):p:=h ⟨k⟩
theorem Zhk(h:p:=by refine Go ?_;refine ZfN ?_;refine Ai (n-(k+1)) ZbC ⟨k+1,j++[x],U,by omega,rfl,by simp[W],M,DY O Y K,rfl⟩ ?_;exact Ac ZbO ZcG):p:=h
theorem Zhl(h:p:=by congr 1;omega):p:=h
theorem Zhm(h:p:=by rw[YcP]at this;omega):p:=h
theorem Zhn(h:p:=by simp only[AS.new,AS.put,r];exact h):p:=h
theorem Zho(h:p:=by refine HYSteps.cons (.q rfl (Ep (r:=((g:Nat):Int)) rfl rfl ((DJ (AR V 4) (j:=2) ZbC).trans c))) ?_;exact ZgQ):p:=h
theorem Zhp(h:p:=by refine Xg (Ez (n:=m) (ah rfl) (ah rfl) T U) ?_;exact Zhh):p:=h
theorem Zhq(k:q)(h:Zaa q->p:=by intro qq;refine Go ?_;refine Ai 0 ZbC ⟨r*y,2,.inr (.inr ⟨rfl,rfl,rfl⟩),rfl⟩ ?_;exact qq.a):p:=h ⟨k⟩
theorem Zhr(h:p:=by refine ZfU ?_;exact AA (Am (ResV.cell rfl rfl (Aa rfl) rfl rfl rfl) (Ae (congrArg AP (Ew F.1 F.2))))):p:=h
theorem Zhv(h:p:=by refine Go ?_;exact AA (Am (ResV.cell rfl rfl (Aa rfl) rfl rfl rfl) (Ae (congrArg AP (Ew d.1 d.2))))):p:=h
theorem Zhw(k:q)(h:Zaa q->p:=by intro qq;refine Zfw ?_;refine HYSteps.cons (.q rfl (Bh rfl (Aa rfl))) ?_;(refine HYSteps.cons (.q rfl (Zcc)) ?_);exact qq.a):p:=h ⟨k⟩
theorem Zhx(h:p:=by obtain⟨k,rfl⟩:∃k,q=k+1:=⟨q-1,by omega⟩;rw[Ycd,YbG,YcF]):p:=h
theorem Zhy(h:p:=by rw[YaG];omega):p:=h
theorem Zhz(h:p:=by obtain⟨A1,n1,a,rfl⟩:=P.form;exact⟨_,rfl,xa,_,_,_,rfl,by rw[Bn (BG _),AK]at P;exact P⟩):p:=h
theorem ZhA(h:p:=by refine Go ?_;exact AA (Rets.of2 (ResV.tmp rfl rfl) (ResV.tmp rfl rfl) (Cn (Ae Zdw) (Ae Zdx)))):p:=h
theorem ZhB(h:p:=by rw[getD_set_ne false (λe=>X e.symm)]at h;exact h):p:=h
theorem ZhC(h:p:=by rw[<-F]at Y;exact⟨_,G,Y,O,e3,.inl e4,e5,λb E=>by cases E;exact .inr (Yai _)⟩):p:=h
theorem ZhD(h:p:=by have:=Ma (hp:=hp) (dd:=dd) (ty:=ty) (ps:=ps) (af:=af) (gd:=gd) (U:=U) C M;rwa [h]at this):p:=h
theorem ZhE(h:p:=by rw[Yaa,Yab O];exact h _ (Ybs O)):p:=h
theorem ZhF(h:p:=by congr 2;exact Array.eq_empty_of_size_eq_zero ZbR):p:=h
theorem ZhG(h:p:=by rw[Yaf,List.take_append,j,Ydv,Yar ZbC];simp):p:=h
theorem ZhH(h:p:=by simp only[Yaa,YaK]at this;simpa using this.symm):p:=h
theorem ZhI(h:p:=by have W:i (.tmp 1)=.pointer (some ⟨w.heap.size,0,none⟩):=t 1 ZbH;exact AD ZdJ rfl):p:=h
theorem ZhJ(h:p:=by have l:q (.tmp 5)=.int .i64 (k:Int):=t 5 ZbH;exact AD (by simp[execOp,l,go_sem]) rfl):p:=h
theorem ZhK(h:p:=by rw[Yaf,List.drop_append,YaN ZbC,j,Ydv];rfl):p:=h
theorem ZhL(h:p:=by have xd:i (.tmp 12)=.pointer (some ⟨w.heap.size+1,1,none⟩):=C.1 _ rfl;have W:N.cell? ⟨w.heap.size+1,1,none⟩=some (.slice Q I l):=Z.cellv ((((EV _ _ ZbR).alloc _).drew.cell 1));exact AD (by simp[execOp,xd,W,go_sem]) rfl):p:=h
theorem ZhM(h:p:=by refine CutS.normal (decide (SmI n),⟨0,p,0,d,r,o,l,s,b⟩) Zck ?_;exact Ac Zca ZbF):p:=h
theorem ZhN(h:p:=by rw[Yaa,Yab B];exact Ybs B):p:=h
theorem ZhO(k:q)(h:Zaa q->p:=by intro qq;refine Gb (λff G=>Kp (l:=b) (f:=λz:Nat=>[ex (.int .u8 (z:Nat))]) rfl (ah rfl) (Aa rfl) (Aa rfl) rfl ZbC) ?_;refine HA ?_;exact qq.a):p:=h ⟨k⟩
theorem ZhP(h:p:=by have u:i (.tmp 7)=.pointer (some ⟨w.heap.size+1,0,none⟩):=C.1 _ rfl;have W:N.cell? ⟨w.heap.size+1,0,none⟩=some (.bool H):=Z.cellv ((((EV _ _ ZbR).alloc _).drew.cell 0));exact AD (by simp[execOp,u,W,go_sem]) rfl):p:=h
theorem ZhQ(h:p:=by have xa:i (.tmp 10)=.pointer (some ⟨w.heap.size,1,none⟩):=C.1 _ rfl;have W:N.cell? ⟨w.heap.size,1,none⟩=some (.slice A n c):=Z.cellv (((((Blk.new _ _ _).alloc _).alloc _).drew.cell 1));exact AD (by simp[execOp,xa,W,go_sem]) rfl):p:=h
theorem ZhR(h:p:=by have U:i (.tmp 8)=.bool H:=C.2.1 _ rfl;exact AD (by simp[execOp,s,U,go_sem]) rfl):p:=h
theorem ZhS(h:p:=by rw[YbV,YaO,Yby ZbC]at this;exact this):p:=h
theorem ZhT(h:p:=by have Y:i (.tmp 5)=.pointer (some ⟨w.heap.size,0,none⟩):=C.1 _ rfl;have W:N.cell? ⟨w.heap.size,0,none⟩=some (.bool b):=Z.cellv (((((Blk.new _ _ _).alloc _).alloc _).drew.cell 0));exact AD (by simp[execOp,Y,W,go_sem]) rfl):p:=h
theorem ZhY(h:p:=by show(Fq L _).length<=6;simp[Fq];omega):p:=h
theorem ZhZ(h:p:=by have e:j≠id:=YaJ G;exact⟨p1,p2.trans (Yaj e).symm⟩):p:=h
theorem Zia(h:p:=by go_ret;exact⟨by rw[LS (by rw[<-U.out,<-T.out];exact hgt)];rfl,Ext.refl _⟩):p:=h
theorem Zib(h:p:=by obtain⟨A1,n1,a,rfl⟩:=P.form;exact⟨_,rfl,xa,_,_,_,rfl,by skip;exact P⟩):p:=h
theorem Zic(h:p:=by rw[G.no]at this;cases this):p:=h
theorem Zid(k:q)(h:Zaa q->p:=by intro qq;refine Kr ?_;apply AWl.nil;exact qq.a):p:=h ⟨k⟩
theorem Zif(h:p:=by refine Ab Tryz.func76 λy=>?_;rw[Tryz.ntmps76];exact Zfz):p:=h
theorem Zig(h:p:=by rw[YeQ,YeQ,Yby ZbC]at this;exact this.symm):p:=h
theorem Zih(h:p:=by refine Go ?_;exact AA (Am (ResV.tmp rfl rfl) (Ae (by rw[MA];congr 3;omega)))):p:=h
theorem Zii(h:p:=by go_ret;exact⟨by rw[LR (by rw[<-U.out,<-T.out];exact O)];rfl,Ext.refl _⟩):p:=h
theorem Zij(h:p:=by have W:i (.tmp 1)=.pointer (some ⟨y,0,none⟩):=t 1 ZbH;exact AD ZdJ rfl):p:=h
theorem Zik(h:p:=by rw[Yaa,Yav,Ydu B];rfl):p:=h
theorem Zil(h:p:=by refine Go ?_;refine Wq (EU (ao rfl)) ?_;refine Bd [0] [] [] (G) (BX rfl) (λV=>(by repeat (first | exact AN (V) | apply AH | apply PanQ.block | apply PanQ.loop):PanQ _ _) _) rfl rfl ZbB Zbz ZbH Zbx ZbD trivial rfl ?_;rintro _ _ ⟨x,d,q,A,rfl,rfl⟩;refine ZfR ?_;refine FinP.ret (RetsA.one rfl) rfl ?_ rfl;exact⟨x,d,q,A,rfl,rfl⟩):p:=h
theorem Zim(h:p:=by show(if s1.w.heap.size=s1.w.heap.size then i+1 else _)=i+1;rw[Yao rfl]):p:=h
theorem Zin(h:p:=by refine CutS.normal (true,⟨0,p,n,d,r,o,l,s,b⟩) Zck ?_;exact Ac Zca ZbF):p:=h
theorem Zio(h:p:=by go_ret;exact⟨by rw[xi.out λh=>by have:=U.out.1 h;omega];rfl,xh.out⟩):p:=h
theorem Zip(h:p:=by rw[e];exact⟨(Ydr _ _).symm,(Yds _ _).symm⟩):p:=h
theorem Ziq(h:p:=by rw[Ycj]at W;simp[execOp,O,resolve,W,Deferred.ofValue,invoke,xc]):p:=h
theorem Zir(h:p:=by refine Ai (8-(k+1)) ZbC ⟨k+1,by omega,rfl,E,rfl⟩ ?_;exact Ac Zcf ZcB):p:=h
theorem Zis(h:p:=by refine Ai (8-(k+1)) ZbC ⟨k+1,by omega,rfl,g,rfl⟩ ?_;exact Ac Zcf ZcB):p:=h
theorem Zit(h:p:=by refine Ai (8-(k+1)) ZbC ⟨k+1,by omega,rfl,g,rfl⟩ ?_;exact Ac Zde ZcB):p:=h
theorem Ziu(h:p:=by refine Ai (8-(k+1)) ZbC ⟨k+1,by omega,rfl,rfl⟩ ?_;exact Ac Zcf ZcB):p:=h
theorem Ziv(h:p:=by refine Ai (8-(j+1)) ZbC ⟨j+1,by omega,rfl,rfl⟩ ?_;exact Ac ZcD Zet):p:=h
theorem Ziw(h:p:=by intro N i Z C t G p;exact ZfZ):p:=h
theorem Zix(h:p:=by intro N i Z C t G p;have K:i (.tmp 3)=.pointer (some ⟨w.heap.size+1,0,none⟩):=t 3 ZbH;exact AD Zem rfl):p:=h
theorem Ziy(h:p:=by simp only[down,E];rfl):p:=h
theorem Ziz(h:p:=by refine FinP.ret (RetsA.one rfl) rfl ?_ rfl;exact⟨_,_,L,A,rfl,rfl⟩):p:=h
theorem ZiA(h:p:=by refine ZfU ?_;exact AA (Am (ResV.tmp rfl rfl) (Ae (by rw[heq,d,e])))):p:=h
theorem ZiB(h:p:=by rw[YaA,Ydm ZiI];simp):p:=h
theorem ZiC(h:p:=by have:(r+1)*4294967296<=d*4294967296:=YaC _ Y;omega):p:=h
theorem ZiD(h:p:=by go_ret;exact⟨by rw[H.out];rfl,(F.out.2.2.2.2.drewN _).drewN _⟩):p:=h
theorem ZiF(h:p:=by rintro _ _ ⟨rfl,rfl⟩;refine ZfR ?_;refine Ai (8-(k+1)) ZbC ⟨k+1,by omega,rfl,rfl⟩ ?_;exact Ac Zcf Zcm):p:=h
theorem ZiG(h:p:=by refine AU [0,1] [] [] (G) Zby rfl rfl ZbB Zbz ZbH Zbx ZbD trivial rfl ?_;exact ZiF):p:=h
theorem ZiH(h:p:=by refine ZfJ ?_;exact Zfz):p:=h
theorem ZiI(h:p:=by simp;omega):p:=h
theorem ZiJ(h:p:=by go_wp2;exact⟨⟨k,_,_,by omega,rfl,xn.out⟩,by simp[intOf]⟩):p:=h
theorem ZiK(h:p:=by rw[<-YbG];exact Zhl):p:=h
theorem ZiM(h:p:=by rw[X.out]at this;exact this):p:=h
theorem ZiN(h:p:=by rw[L.out]at this;exact this):p:=h
theorem ZiO(h:p:=by rw[Fi a,FX B]at h;exact Zhn):p:=h
theorem ZiQ(h:p:=by refine Ab Tryz.func170 λy=>?_;rw[Tryz.ntmps170];exact Zfz):p:=h
theorem ZiR(h:p:=by refine CutS.normal () (by simp[XP,eq3,A,B]) ?_;exact Ac Zdb ZcV):p:=h
theorem ZiS(h:p:=by have e7:Q (.tmp 7)=.int .i64 (k:Int):=V 7 ZbH;exact AD ZeV rfl):p:=h
theorem ZiT(h:p:=by have e6:L (.tmp 6)=.int .i64 (k:Int):=t 6 ZbH;exact AD ZeU rfl):p:=h
theorem ZiU(h:p:=by have e8:L (.tmp 8)=.int .i64 (j:Int):=t 8 ZbH;exact AD ZeW rfl):p:=h
theorem ZiV(h:p:=by rw[show((k:Nat):Int).toNat=k from rfl,G.eq]at this;exact this):p:=h
theorem ZiW(h:p:=by refine Go ?_;exact AA (Am (ResV.tmp rfl rfl) (Ae (by rw[a])))):p:=h
theorem ZiX(h:p:=by refine Go ?_;exact AA (Am (ResV.tmp rfl rfl) (Ae (by rw[b])))):p:=h
theorem ZiY(k:q)(h:Zaa q->p:=by intro qq;refine DA ?_;refine⟨_,AZ rfl rfl (Fm (l:=LL.getD k default) rfl (Aa rfl) (Aa rfl) (Aa rfl)),?_⟩;exact qq.a):p:=h ⟨k⟩
theorem ZiZ(h:p:=by rw[GC];refine Ab Tryz.func24 λy=>?_;refine ZgW ?_;refine DA ?_;exact ZfH):p:=h
theorem Zja(h:p:=by rw[E]at h;cases h):p:=h
theorem Zjb(h:p:=by simp only[Yat];omega):p:=h
theorem Zjc(h:p:=by rw[<-YcP];exact YaX J (Yai n)):p:=h
theorem Zjd(h:p:=by rw[Ycz,Ybf];exact YcK m BB):p:=h
theorem Zje(h:p:=by rw [YbK O.out,BJ];exact Words.nil _ _ _ ZbC):p:=h
theorem Zjf(h:p:=by have:(k+1)*G<=len*G:=YaC G B;exact Zhm):p:=h
theorem Zjg(h:p:=by rw[Ky 9998 a b W (List.range 8) ZbR]at this;exact this):p:=h
theorem Zjh(h:p:=by rw[Yao (by simp[Region.wanted,ck.gd])];exact .inl h):p:=h
theorem Zji(h:p:=by refine Go ?_;exact AA (Am (ResV.tmp rfl rfl) (Ae Zez))):p:=h
theorem Zjj(h:p:=by rw[R,gN];omega):p:=h
theorem Zjk(h:p:=by simp only[Yam,YdL]at E;have W:S.length=G:=Yan E.1;rw[f _ _ h,Gy ZbC]):p:=h
theorem Zjl(h:p:=by go_ret;exact⟨by rw[A.out];rfl,Z.out.trans Q.out⟩):p:=h
theorem Zjm(h:p:=by rw[C]at this;exact this):p:=h
theorem Zjn(h:p:=by simp only[maxLen];omega):p:=h
theorem Zjo(k:q)(h:Zaa q->p:=by intro qq;refine⟨_,AZ rfl rfl (Fm (l:=b) rfl (Aa rfl) (Aa rfl) (Aa rfl)),?_⟩;refine⟨_,rfl,?_⟩;exact qq.a):p:=h ⟨k⟩
theorem Zjp(h:p:=by refine HpLe.cons (OwLe.cells ZcJ) ?_;exact HpLe.nil):p:=h
theorem Zjq(h:p:=by rw[xa.size];exact(Yae.1 u).1):p:=h
theorem Zjr(h:p:=by rw[YdH,Yao O];rfl):p:=h
theorem Zjs(h:p:=by refine Go ?_;exact AA (Am (ResV.tmp rfl rfl) (AM))):p:=h
theorem Zjt(h:p:=by rw[YbG,<-YbR]at this;exact this):p:=h
theorem Zju(h:p:=by rw[show i+(j+1)=i+1+j by omega]at this;exact this):p:=h
theorem Zjw(h:p:=by have:=CJ (c:=n) J.out.2.2.1 J.out.2.1 ZdH ZbC;rw[J.out.1]at this;exact this):p:=h
theorem Zjx(h:p:=by rw[Y.out.1]at this;exact this):p:=h
theorem Zjy(k:q)(h:Zaa q->p:=by intro qq;refine⟨X,by rw[Q.out.2];rfl,?_,J.out.2.2.2.2.trans Z⟩;rw[Bn J.out.2.1,<-Q.out.1]at S;exact qq.a):p:=h ⟨k⟩
theorem Zjz(h:p:=by have:=h.how;cases this):p:=h
theorem ZjA(h:p:=by refine DA ?_;exact ZfF):p:=h
theorem ZjB(h:p:=by refine Go ?_;refine CutS.normal (EI k e,⟨e.n,e.cof,[],[],[],[],[],e.r,e.a,e.sq,e.x,e.b⟩) ZbP ?_;exact Ac Zca ZbF):p:=h
theorem ZjC(h:p:=by refine Go ?_;exact Zgc):p:=h
theorem ZjD(h:p:=by simp[YaP this]):p:=h
theorem ZjE(h:p:=by exact .inl (opStep_wp xn.2 (eval_operands T xa u E xg xf) (xv hw) λv w2 ⟨V,xy⟩=>xJ v w2 _ rfl V xy)):p:=h
theorem ZjF(h:p:=by exact⟨rfl,rfl⟩):p:=h
theorem ZjG(h:p:=by exact⟨n,Yai _,rfl,by rw[M.out,YaY];rfl⟩):p:=h
theorem ZjH(h:p:=by exact ((((Ext.refl _).alloc _).trans Z).set (Yai _) _).set (Yai _) _):p:=h
theorem ZjI(h:p:=by simpa using q):p:=h
theorem ZjJ(h:p:=by exact ((((Ext.refl _).alloc _).trans T.out).set (Yai _) _).set (Yai _) _):p:=h
theorem ZjK(h:p:=by exact .cons (Stab.eq _) (.cons (Stab.eq _) (.cons (Stab.eq _) (.cons (Stab.eq _) (.cons (Stab.eq _) (.cons (Stab.eq _) (.cons (Stab.eq _) (.cons (Stab.eq _) (.cons (Stab.eq _) (.cons (λ_ _ _ E h=>h.ext E) (.cons (λ_ _ _ E ⟨b,A,n,c,q,B⟩=>⟨b,A,n,c,q,B.ext E⟩) .nil))))))))))):p:=h
theorem ZjL(h:p:=by exact ((((((Ext.refl _).alloc _).alloc _).alloc _).drew.trans Z.out).set ZcM _).set ZcM _):p:=h
theorem ZjM(h:p:=by simp[eqGuard,binOp,Op.intArith,e]):p:=h
theorem ZjN(h:p:=by simp[execOp,N,W,G,Instr.indexAt,Instr.sureAddr,asIntOf,run_underlying L.und,E,J,B.run_size,Addr.add_lit]):p:=h
theorem ZjO(h:p:=by exact ⟨undef,λh=>absurd h X⟩):p:=h
theorem ZjP(h:p:=by exact⟨_,K,E,⟨W,C,j⟩,.pass (x:=.inLoop c) rfl (λ_ _=>.inl ZbR) S⟩):p:=h
theorem ZjQ(h:p:=by exact setRow_other s.w g b _ (λe=>E e)):p:=h
theorem ZjR(h:p:=by exact ⟨_,rfl,.inr ⟨rfl,by omega⟩⟩):p:=h
theorem ZjS(h:p:=by exact ⟨u.df,v,q,v,rfl,C,rfl,u.le.le λ_ h=>h,A⟩):p:=h
theorem ZjT(h:p:=by exact .inr ⟨j,by omega,h3⟩):p:=h
theorem ZjU(h:p:=by exact⟨0,by omega,rfl,rfl,(Ext.refl _).alloc _⟩):p:=h
theorem ZjV(h:p:=by decide +kernel):p:=h
theorem ZjW(h:p:=by rw[Yaj ZbC,Yaj ZbC]):p:=h
theorem ZjX(h:p:=by exact⟨by omega,λ_=>by omega⟩):p:=h
theorem ZjY(h:p:=by simpa using this):p:=h
theorem ZjZ(h:p:=by rwa [YaO,Yby ZbC]at this):p:=h
theorem Zka(h:p:=by exact⟨x,by simp[s],p.out.1.trans Q.out.symm,p.out.2.1,p.out.2.2.1,p.out.2.2.2.1,by rw[Q.out];exact B.out⟩):p:=h
theorem Zkb(h:p:=by rw[Yaf,<-Ydp,YbV,YbV]):p:=h
theorem Zkc(h:p:=by rw[h,YaM q,Ydz,YaV Y]):p:=h
theorem Zkd(h:p:=by exact ((((((((Ext.refl _).alloc _).alloc _).alloc _).alloc _).trans Z.out |>.set ZcM _).set ZcM _).set ZcM _).set ZcM _):p:=h
theorem Zke(h:p:=by simp[BA,Yaa,Yab h]):p:=h
theorem Zkf(h:p:=by exact Yag q):p:=h
theorem Zkg(h:p:=by exact AA (Am (ResV.cell rfl rfl (Aa rfl) rfl rfl rfl) (D.le.refl _))):p:=h
theorem Zkh(h:p:=by exact .inl ⟨Ybi h,h⟩):p:=h
theorem Zki(h:p:=by exact .inr (.inl ⟨by rw[h];rfl,h⟩)):p:=h
theorem Zkj(h:p:=by exact .inr (.inr ⟨Ybr h,h⟩)):p:=h
theorem Zkk(h:p:=by exact Ac Zci Zcb):p:=h
theorem Zkl(h:p:=by simp[BA,Yaa,Yab B]):p:=h
theorem Zkm(h:p:=by exact ⟨u.df,v,q,.inl ⟨v,rfl,F,f,r,_,m,rfl,xe,U⟩⟩):p:=h
theorem Zkn(h:p:=by exact(show a'.eval (.const v)=v from rfl)):p:=h
theorem Zko(h:p:=by exact(show a'.eval (.func f)=_ from rfl)):p:=h
theorem Zkp(h:p:=by rwa [show j+1+i=j+(i+1)by omega]at this):p:=h
theorem Zkq(h:p:=by exact AA (Am (ResV.tmp rfl rfl) (Ae (by congr 2;omega)))):p:=h
theorem Zkr(h:p:=by rw[heq,Hf O,(YaN ZbC:Q.drop k=[]),Db]):p:=h
theorem Zks(h:p:=by rw[heq,F,(YaN ZbC:Q.drop k=[]),Db]):p:=h
theorem Zkt(h:p:=by exact Ac (by exact Yd<|Yd<|Yd<|Yd<|Yd<|FrLe.nil) Zcb):p:=h
theorem Zku(h:p:=by exact Om (L:=L) (rs:=w) (i:=i+1) Zdn q Zfq (λj X=>by rw[Yaj ZbC];exact U j X) l (xk b T _ e5) xh xf xe):p:=h
theorem Zkv(h:p:=by exact⟨rfl,by simp only[CD,Yaf];rfl⟩):p:=h
theorem Zkw(h:p:=by rw[Bp,Yac]):p:=h
theorem Zkx(h:p:=by exact Ac ZbT ZcH):p:=h
theorem Zky(h:p:=by exact .inr ⟨g,cap,cur,e1,e2,(E g (by rw[e1];rfl)).1.trans e3,e4⟩):p:=h
theorem Zkz(h:p:=by exact xK k' A (by rwa [Ycx]at xh)):p:=h
theorem ZkA(h:p:=by exact⟨by simpa[AV.below,Ybq]using B,Y.2⟩):p:=h
theorem ZkB(h:p:=by exact Ac ZbO Zcg):p:=h
theorem ZkC(h:p:=by exact Ac (by exact Yp<|Yp<|Yp<|Yd<|Yd<|FrLe.nil) Zdr):p:=h
theorem ZkD(h:p:=by exact Ac Zcd ZbL):p:=h
theorem ZkE(h:p:=by exact Ac ZbY (by(refine HpLe.cons (OwLe.row (by rw[J];simp)) ?_);exact HpLe.cons (Ak rfl)<|HpLe.cons (Ad rfl)<|HpLe.nil)):p:=h
theorem ZkF(h:p:=by exact YbN _ _):p:=h
theorem ZkG(h:p:=by exact Ac Zca ZbF):p:=h
theorem ZkH(h:p:=by exact AA (Am (ResV.tmp rfl rfl) (Ae (congrArg (λz=>ex (.bool z)) ZeT)))):p:=h
theorem ZkI(h:p:=by exact ClOk.mk' [] [] rfl rfl ⟨by dsimp only;omega,PB.nil,by dsimp only;omega,by dsimp only;omega,.inl ZbV,λ_=>rfl,by simp,by simp,by simp⟩):p:=h
theorem ZkJ(h:p:=by exact Ybs _):p:=h
theorem ZkK(h:p:=by exact Ac Zco Zcp):p:=h
theorem ZkL(h:p:=by exact ⟨rfl,rfl,rfl,rfl,rfl,rfl,rfl,rfl,trivial⟩):p:=h
theorem ZkM(h:p:=by exact DataW.trod_lt m _ _ _ L):p:=h
end
end Go.Proofs
namespace Go.Proofs.YtcikkglcoeedlaaGreat
open _root_.Go.Proofs.Tryz
variable{vl:Act}{vO:Array Bool}{ua:Array Oper}{vB:Array Value}{o:Bool}{vS:Exit->Act->World->Prop}{a j:Int}{l g vo:List Nat}{n b T m:Nat}{va:Oper}{uy:Operand->Value}{uz:Option Addr}{P:Program}{t:TypeId}{z u:Value}{w p:World}
section
open Go.RowKit
def Ext(w N:World):Prop:=Below w.heap.size w N
theorem Ext.refl(w:World):Ext w w:=Below.refl _ _
theorem Ext.trans{a b c:World}(h:Ext a b)(k:Ext b c):Ext a c:=Below.trans h (Below.mono k h.size)
theorem Ext.drew{a b:World}(h:Ext a b):Ext a b.drew:=Below.drew h
theorem Ext.drewN(h:Ext w p)(n:Nat):Ext w (p.drewN n):=by
 obtain⟨q,A,K,Q,k⟩:=h;exact⟨q,A,K,Q,k⟩
theorem Ext.size{a b:World}(h:Ext a b):a.heap.size<=b.heap.size:=Below.size h
theorem Ext.block{a b:World}(h:Ext a b){k:Nat}(B:k<a.heap.size):b.heap[k]? = a.heap[k]?:=Below.block h k B
theorem Ext.cell{a b:World}(h:Ext a b){p:Addr}(F:p.block<a.heap.size):b.cell? p=a.cell? p:=Below.cell h F
theorem Ext.frozen{a b:World}(h:Ext a b){p:Addr}(F:p.block<a.heap.size):b.frozen? p=a.frozen? p:=Below.frozen h F
theorem Ext.cellv{a b:World}(h:Ext a b){p:Addr}{v:Value}(r:a.cell? p=some v):b.cell? p=some v:=(h.cell (World.block_lt_of_cell? a p r)).trans r
theorem Ext.alloc{a b:World}(h:Ext a b)(o:Obj):Ext a (b.alloc o):=Below.alloc h h.size o
theorem Af{p:Prop}(h:p):Hid p:=h
def OpStep(P:Program)(o:Oper)(ev:Operand->Value)(w:World)(R:Value->World->Prop):Prop:=
 match (execOp ev o).run P w with
 |.ok (.value v) N=>R v N
 |.ok .skip N=>R undef N
 |.ok (.enter f args) N=>Calls P f args N λe X=>∃v,e=.returned v/\R v X
 |_=>False
structure Shape where
 env:List (Nat×Nat)
 bef:List Nat
 deps:List Nat
def upd(g:Nat->Value)(i:Nat)(v:Value):Nat->Value:=λk=>if k=i then v else g k
def Vs(i:Operand->Value)(g:Nat->Value):List (Nat×Nat)->Prop
 |[]=>True
 |(t,j)::r=>i (.tmp t)=g j/\Vs i g r
def Ft(o:Oper)(g:Nat->Value):Bool:=
 match o.guard with
 |none=>true
 |some (j,b)=>match g j with |.bool c=>c==b |_=>false
abbrev Fact:=List Value->World->Prop
def Known(Z:List Shape)(l:List Fact)(i:Nat)(g:Nat->Value)(w:World):Prop:=
 ∀x,Z[i]? = some x->∀j∈x.bef,∀y F,Z[j]? = some y->l[j]? = some F->F (y.deps.map g) w
def StepAt(P:Program)(Z:List Shape)(l:List Fact)(a:Act)(b:World)(i:Nat)(o:Oper)(x:Shape)(F:Fact):Prop:=
 ∀(g:Nat->Value) (w:World) (q:Operand->Value),Ext b w->Known Z l i g w->Vs q g x.env ->
  (∀t,(∀p∈x.env,p.1≠t)->q (.tmp t)=a.tmps.getD t undef)->(∀v,q (.const v)=v)->(∀f,q (.func f)=.func (.func f) #[] #[]) ->
  (Ft o g=true->OpStep P o q w λv N=>Ext w N/\F (x.deps.map (upd g i v)) N)/\(Ft o g=false->F (x.deps.map (upd g i undef)) w)
def StepsAt(P:Program)(Z:List Shape)(l:List Fact)(a:Act)(b:World):Nat->List Oper->List Shape->List Fact->Prop
 |i,o::L,x::S,F::T=>StepAt P Z l a b i o x F/\StepsAt P Z l a b (i+1) L S T
 |_,_,[],[]=>True
 |_,_,_,_=>False
theorem StepsAt.at{P:Program}{Z:List Shape}{l:List Fact}{a:Act}{b:World}:∀{S:List Shape} {T:List Fact} {L:List Oper} {i:Nat},StepsAt P Z l a b i L S T ->
  S.length=T.length/\∀k o x,L[k]? = some o->S[k]? = some x->∃F,T[k]? = some F/\StepAt P Z l a b (i+k) o x F
 |[],[],L,i,_=>⟨rfl,λk o x _ C=>by simp at C⟩
 |[],_::_,L,i,h=>by cases L<;>exact h.elim
 |_::_,[],L,i,h=>by cases L<;>exact h.elim
 |x::S,F::T,[],i,h=>h.elim
 |x::S,F::T,o::L,i,h=>Zab
def Bw(o:Oper):List Nat:=(o.after.toList.filter λe=>Region.binds .any e).map (·.on)
def Dz(Z:List Shape)(j:Nat):List Nat:=(Z[j]?.map (·.bef)).getD []
def BN:Op->Bool
 |.select ..=>false
 |_=>true
def Fr(L:List Oper)(Z:List Shape)(i:Nat)(o:Oper)(x:Shape):Bool:=
 x.bef.all (λj=>(Bw o).any λe=>e==j||(Dz Z e).contains j) &&
 x.deps.all (λk=>k==i||x.bef.contains k) &&
 x.env.all (λp=>x.bef.contains p.2&&decide (p.2<Z.length)&&(match L[p.2]? with | some q=>q.dst==some p.1 | none=>false)) &&
 o.op.operands.toList.all (fun | .tmp t=>(x.env.map (·.1)).contains t||((List.range Z.length).all λj=>match L[j]? with | some q=>q.dst != some t||j==i||(Dz Z j).contains i | none=>true) | _=>true) &&
 (match o.guard with | some (j,_)=>x.bef.contains j&&decide (j<Z.length)&&(match L[j]? with | some q=>q.dst.isSome | none=>false) | none=>true) &&
 BN o.op
def A5c(L:List Oper)(Z:List Shape)(t:Nat)(o:Oper):Bool:=
 (List.range t).all λj=>(Bw o).any λe=>e==j||(if e<Z.length then(Dz Z e).contains j else decide (j<e))
def Ee(L:List Oper)(Z:List Shape):Bool:=
 decide (Z.length<=L.length) &&
 L.zipIdx.all (λ(o,i)=>(Bw o).all (λe=>decide (e<i)) &&
  (match Z[i]? with | some x=>Fr L Z i o x | none=>A5c L Z i o)) &&
 (List.range Z.length).all (λi=>(List.range Z.length).all λj=>i==j||(match L[i]?,L[j]? with | some o,some q=>o.dst.isNone||o.dst != q.dst | _,_=>true))
def Ia(L:List Oper)(n l:Nat):Bool:=(L.take n).all λo=>match o.dst with | some d=>decide (d<l) | none=>true
def FH(g:Nat->Value):List Oper->Nat->Act->Act
 |[],_,a=>a
 |o::r,i,a=>FH g r (i+1) (a.put o.dst (g i))
section
variable {P:Program} {L:List Oper} {sh:List Shape} {Rs:List Fact} {a:Act} {w0:World}
theorem DK(h:Ee L sh=true):sh.length<=L.length:=by
 simp only[Ee,Yam,YaZ]at h;exact h.1.1
theorem CQ(h:Ee L sh=true){i:Nat}(s:L[i]? = some va) :
  (∀e∈Bw va,e<i)/\(∀x,sh[i]? = some x->Fr L sh i va x=true)/\(sh[i]? = none->A5c L sh i va=true):=by
 simp only[Ee,Yam]at h
 have A:=Yah.1 h.1.2 (va,i) (by
  rw[YbQ];exact s)
 simp only[Yam,Yah,YaZ]at A;refine⟨A.1,λx C=>?_,λC=>?_⟩
 .have:=A.2;exact Zjm
 .have:=A.2;exact Zjm
theorem GG(h:Ee L sh=true){i j:Nat}{o x:Oper}(J:i<sh.length)(X:j<sh.length)(s:L[i]? = some o)(M:L[j]? = some x)(d:o.dst=some T)(e:x.dst=some T):i=j:=by
 simp only[Ee,Yam]at h;have A:=Yah.1 (Yah.1 h.2 i (Ybd.2 J)) j (Ybd.2 X);rw[s,M]at A;simp[d,e]at A;exact A
theorem Mt{e:Edge}(b:e∈va.after)(E:Region.binds .any e=true):e.on∈Bw va:=by
 unfold Bw;exact YaD.2 ⟨e,Yee.2 ⟨by simpa using b,E⟩,rfl⟩
theorem Ki(h:n∈Bw va):∃e∈va.after,Region.binds .any e=true/\e.on=n:=by
 unfold Bw at h;obtain⟨e,b,rfl⟩:=YaD.1 h;obtain⟨q,A⟩:=Yee.1 b;exact⟨e,by simpa using q,A,rfl⟩
structure HInv(L:List Oper)(sh:List Shape)(Rs:List Fact)(a:Act)(w0:World)(listed:Array Bool)(g:Nat->Value)(a':Act)(w':World):Prop where
 size:listed.size=L.length
 closed:∀j o,L[j]? = some o->listed.getD j false=true->∀e∈Bw o,listed.getD e false=true
 tail:∀t,sh.length<=t->listed.getD t false=false
 asz:a'.tmps.size=a.tmps.size
 adef:a'.defers=a.defers
 a1:∀j o d,j<sh.length->L[j]? = some o->listed.getD j false=true->o.dst=some d->a'.tmps[d]? = some (g j)
 a2:∀t,(∀j o,j<sh.length->L[j]? = some o->listed.getD j false=true->o.dst≠some t)->a'.tmps[t]? = a.tmps[t]?
 facts:∀j y F,sh[j]? = some y->Rs[j]? = some F->listed.getD j false=true->F (y.deps.map g) w'
 ext:Ext w0 w'
variable{us:Shape}
theorem ER(h:sh[n]? = some us):n<sh.length:=(Yae.1 h).1
theorem En(B:Ee L sh=true)(G:∀j o,L[j]? = some o->vO.getD j false=true->∀e∈Bw o,vO.getD e false=true) :
  ∀(i:Nat) (x:Shape) (o:Oper),sh[i]? = some x->L[i]? = some o->(∀e∈Bw o,vO.getD e false=true)->∀j∈x.bef,vO.getD j false=true:=by
 intro i
 induction i using Nat.strongRecOn with
 |_ i u=>
  intro x o C s F j X;obtain⟨O,n,_⟩:=CQ B s;have q:=n x C;simp only[Fr,Yam]at q;have A:=Yah.1 q.1.1.1.1.1 j X;obtain⟨e,b,k⟩:=YbF.1 A;have E:=F e b;simp only[YaT,YcI]at k;rcases k with rfl | k
  .exact E
  .have f:=O e b
   cases M:sh[e]? with
   |none=>simp[Dz,M]at k
   |some y=>
    have h:e<L.length:=Yaq (ER M) (DK B);have W:L[e]? = some L[e]:=Yab h;refine u e f y _ M W (G e _ W E) j ?_;simpa[Dz,M]using k
noncomputable def QR (a:Act) (g:Nat->Value) (env:List (Nat×Nat)):Operand->Value
 |.tmp t=>match env.find? (λp=>p.1==t)with
  |some p=>g p.2
  |none=>a.tmps.getD t undef
 |.const v=>v
 |.global b=>.pointer (some ⟨b,0,none⟩)
 |.func f=>.func (.func f) #[] #[]
theorem HZ(B:Ee L sh=true){i:Nat}(C:sh[i]? = some us)(s:L[i]? = some va){p:Nat×Nat}(F:p∈us.env) :
  p.2∈us.bef/\p.2<sh.length/\∃x,L[p.2]? = some x/\x.dst=some p.1:=by
 have q:=(CQ B s).2.1 us C;simp only[Fr,Yam]at q;have A:=Yah.1 q.1.1.1.2 p F;simp only[Yam,YaZ]at A;obtain⟨⟨K,Q⟩,k⟩:=A;refine⟨by simpa using K,Q,?_⟩;split at k
 .rename_i x M;exact⟨x,M,by simpa using k⟩
 .cases k
theorem SQ{i:Operand->Value}{g:Nat->Value}:∀{env:List (Nat×Nat)},(∀p∈env,i (.tmp p.1)=g p.2)->Vs i g env
 |[],_=>trivial
 |(t,j)::r,h=>⟨h (t,j) ZbR,SQ λp F=>h p (by simp[F])⟩
theorem step_inv(O:Ee L sh=true)(K:Ia L sh.length a.tmps.size=true)
  (xb:∀F∈Rs,∀Q V Z,Ext V Z->F Q V->F Q Z)
 {g:Nat->Value} (S:HInv L sh Rs a w0 vO g vl w) {i:Nat} {F:Fact} (s:L[i]? = some va) (C:sh[i]? = some us) (hF:Rs[i]? = some F)
  (v:vO.getD i false=false) (n:∀e∈Bw va,vO.getD e false=true) (b:Ext w p) (N:F (us.deps.map (upd g i z)) p) :
  HInv L sh Rs a w0 (vO.setIfInBounds i true) (upd g i z) (vl.put va.dst z) p:=by
 have xa:i<sh.length:=ER C;have R:i<vO.size:=by rw[S.size];exact(Yae.1 s).1
 have U:∀j,(vO.setIfInBounds i true).getD j false=true->j≠i->vO.getD j false=true:=λj h X=>by
  exact ZhB
 have xe:∀j y m,sh[j]? = some y->L[j]? = some m->vO.getD j false=true->i∉y.bef:=λj y m M l I J=>by
  have:=En O S.closed j y m M l (S.closed j m l I) i J;rw[v]at this;cases this
 refine⟨by simp[S.size],λj m l I e x=>?_,λt E=>?_,?_,?_,λj m d X l I T=>?_,λt E=>?_,λj y G M u I=>?_,S.ext.trans b⟩
 .by_cases r:j=i
  .subst r
   have:m=va:=Yag (l.symm.trans s);subst this;exact getD_set_true (n e x)
  .exact getD_set_true (S.closed j m l (U j I r) e x)
 .rw [getD_set_ne false ZbC];exact S.tail t E
 .unfold Act.put;split<;>simp[S.asz]
 .unfold Act.put;split<;>simp[S.adef]
 .by_cases r:j=i
  .subst r
   have:m=va:=Yag (l.symm.trans s);subst this
   have xd:d<vl.tmps.size:=by
    rw[S.asz];have A:=Yah.1 K m (Yaz (i:=j) (by rw[YaK];simp[xa,l]));simp only[T,YaZ]at A;exact A
   simp[Act.put,T,upd,xd]
  .have xc:=U j I r
   have Y:va.dst≠some d:=λe=>r (GG O X xa l s T e);rw[show upd g i z j=g j by simp[upd,r],<-S.a1 j m d X l xc T];unfold Act.put;split
   .rename_i f c
    have:f≠d:=λe=>Y (by rw[c,e]);simp[YaP this]
   .rfl
 .have A:va.dst≠some t:=by
   refine E i va xa s ?_;simp[R]
  rw[<-S.a2 t λj m X l I=>E j m X l (getD_set_true I)];unfold Act.put;split
  .rename_i f c
   have:f≠t:=λe=>A (by rw[c,e]);simp[YaP this]
  .rfl
 .by_cases r:j=i
  .subst r
   have W:y=us:=Yag (M.symm.trans C);have o:G=F:=Yag (u.symm.trans hF);subst W;subst o;exact N
  .have xc:=U j I r
   have H:j<L.length:=Yaq (ER M) (DK O);have l:L[j]? = some L[j]:=Yab H;have xg:=xe j y _ M l xc
   have xf:y.deps.map (upd g i z)=y.deps.map g:=by
    refine YaS λk B=>?_;have q:=(CQ O l).2.1 y M;simp only[Fr,Yam]at q;have A:=Yah.1 q.1.1.1.1.2 k B;simp only[YaT,YcI]at A
    have xh:k≠i:=by
     rintro rfl;rcases A with A | A
     .exact r A.symm
     .exact xg ZdE
    simp[upd,xh]
   rw[xf];exact xb G (Yaz u) _ _ _ b (S.facts j y G M u xc)
theorem eval_operands(B:Ee L sh=true){g:Nat->Value}(N:HInv L sh Rs a w0 vO g vl w)(s:L[n]? = some va)(C:sh[n]? = some us)
  (Q:vO.getD n false=false) (o:∀e∈Bw va,vO.getD e false=true):∀y∈va.op.operands,vl.eval y=QR a g us.env y:=by
 intro y M
 cases y with
 |tmp t=>
  show vl.tmps.getD t undef=_
  cases S:us.env.find? (λp=>p.1==t)with
  |some p=>
   have F:p∈us.env:=Ybp S;have z:p.1=t:=by simpa using YcJ S
   obtain⟨q,A,x,E,G⟩:=HZ B C s F;have I:=En B N.closed n us va C s o p.2 q;have:=N.a1 p.2 x p.1 A E I G;simp only[QR,S];rw[z]at this;simp[this]
  |none=>
   simp only[QR,S];have q:=(CQ B s).2.1 us C;simp only[Fr,Yam]at q;have A:=Yah.1 q.1.1.2 (.tmp t) (by simpa using M);simp only[YaT]at A;rcases A with A | A
   .exfalso
    have:t∈us.env.map (·.1):=by simpa using A
    obtain⟨p,F,z⟩:=YaD.1 this;have:=Ycl.1 S p F;simp[z]at this
   .have:vl.tmps[t]? = a.tmps[t]?:=by
     refine N.a2 t λj O X J I V=>?_;have K:=Yah.1 A j (Ybd.2 X);rw[J]at K;simp[V]at K;rcases K with K | K
     .subst K;rw[Q]at I;cases I
     .cases Y:sh[j]? with
      |none=>rw[Ycr]at Y;omega
      |some W=>
       have:=En B N.closed j W O Y J (N.closed j O J I) n (by simpa[Dz,Y]using K);rw[Q]at this;cases this
    rw[YaA,YaA,this]
 |const v=>rfl
 |global b=>rfl
 |func f=>rfl
theorem wanted_of(B:Ee L sh=true){g:Nat->Value}(N:HInv L sh Rs a w0 vO g vl w)(s:L[n]? = some va)(C:sh[n]? = some us)
  (o:∀e∈Bw va,vO.getD e false=true):Region.wanted va (yielded L.toArray vl.tmps)=Ft va g:=by
 unfold Region.wanted Ft
 cases R:va.guard with
 |none=>rfl
 |some Z=>
  obtain⟨j,b⟩:=Z;have q:=(CQ B s).2.1 us C;simp only[Fr,Yam]at q;have A:=q.1.2;rw[R]at A;simp only[Yam,YaZ]at A;obtain⟨⟨K,Q⟩,k⟩:=A;have I:=En B N.closed n us va C s o j Zeh;split at k
  .rename_i x M
   obtain⟨d,E⟩:=YcC.1 k;have:=N.a1 j x d Q M I E;unfold yielded;simp only[YbH,M,YdT,E,this];cases g j<;>simp
  .cases k
theorem opStep_wp{R:Value->World->Prop}{K:Act->World->Prop}(J:BN va.op=true)(o:∀y∈va.op.operands,vl.eval y=uy y)
  (h:OpStep P va uy w R) (g:∀v X,R v X->K (vl.put va.dst v) X):va.wp P vl w K vS:=by
 unfold Oper.wp
 have q:∀B b,va.op≠.select B b:=by
  intro B b e;rw[e]at J;cases J
 rw[execOp_congr va q o];unfold OpStep at h;split at h
 .rename_i v X Y;rw[Y];exact g _ _ h
 .rename_i X Y;rw[Y];exact g _ _ h
 .rename_i f args X Y
  rw[Y];exact Calls.mono h λe C ⟨v,A,E⟩=>by subst A;exact g _ _ E
 .exact h.elim
theorem LG(h:n<vO.size):vO.getD n true=vO.getD n false:=by simp[h]
theorem NM(C:Ee L sh=true)(v:vO.size=L.length){i:Nat}(J:i∈Region.ready .any L.toArray vO) :
  vO.getD i false=false/\∃o,L[i]? = some o/\∀e∈Bw o,vO.getD e false=true:=by
 obtain⟨q,o,s,H⟩:=mem_ready.1 J;have M:L[i]? = some o:=by simpa using s
 have c:i<vO.size:=by rw[v];exact(Yae.1 M).1
 refine⟨by rw[<-LG c];exact q,o,M,λe b=>?_⟩;obtain⟨G,I,E,rfl⟩:=Ki b;exact H G I E
theorem LI(C:Ee L sh=true)(v:vO.size=L.length):∀(i:Nat),i<L.length->vO.getD i false=false->∃k,k<=i/\k∈Region.ready .any L.toArray vO:=by
 intro i
 induction i using Nat.strongRecOn with
 |_ i u=>
  intro J q;by_cases h:∃e,e<i/\vO.getD e false=false
  .obtain ⟨e,b,Q⟩:=h
   obtain⟨k,B,Y⟩:=u e b ZbC Q;exact⟨k,by omega,Y⟩
  .refine ⟨i, Yai _, mem_ready.2 ⟨by rw [LG ZbC]; exact q, L[i], by simp [J], λe b E=>?_⟩⟩
   have O:=(CQ C (Yab J)).1 e.on (Mt b E)
   cases R:vO.getD e.on false with
   |true=>rfl
   |false=>exact absurd ⟨e.on,O,R⟩ h
def JI(q:Array Bool):Nat:=(q.toList.filter (!·)).length
theorem Nq{i:Nat}(J:i<vO.size)(h:vO.getD i false=false):JI (vO.setIfInBounds i true)+1=JI vO:=by
 obtain⟨l⟩:=vO;simp only[JI,Ybe,Ydh]at *
 have q:l[i]? = some false:=by
  simp[J]at h;simp[Yab J,h]
 clear h
 induction l generalizing i with
 |nil=>simp at J
 |cons b l u=>
  cases i with
  |zero=>
   simp at q;subst q;simp
  |succ i=>
   simp only[YbB];have:=u (i:=i) (by simpa using J) Zdv;cases b<;>simp_all
theorem SL(J:n<vO.size)(h:vO.getD n false=false):0<JI vO:=by
 have:=Nq J h;omega
theorem Lk(C:Ee L sh=true)(v:vO.size=L.length)(G:∀j va,L[j]? = some va->vO.getD j false=true->∀e∈Bw va,vO.getD e false=true)
 (B:sh.length<=n) (s:L[n]? = some va) (o:∀e∈Bw va,vO.getD e false=true):∀j,j<n->vO.getD j false=true:=by
 induction n using Nat.strongRecOn generalizing va with
 |_ n u=>
  intro j X;obtain⟨O,_,J⟩:=CQ C s;have q:=J (Ycr.2 B);have A:=Yah.1 q j (Ybd.2 X);obtain⟨e,b,k⟩:=YbF.1 A;simp only[YaT,YcI]at k;rcases k with rfl | k
  .exact o e b
  .have g:=O e b
   have h:e<L.length:=by have:=(Yae.1 s).1;omega
   have W:L[e]? = some L[e]:=Yab h;split at k
   .rename_i N
    have M:sh[e]? = some sh[e]:=Yab N;exact En C G e _ _ M W (G e _ W (o e b)) j (by simpa[Dz,M]using k)
   .rename_i N
    exact u e g ZbC W (G e _ W (o e b)) j (by simpa using k)
theorem NJ(F:Ee L sh=true):∀(f m:Nat) (E:Array Bool) (G:Act) (N:World),sh.length<=m->f+m=L.length->E.size=L.length ->
  (∀j,j<m->E.getD j false=true)->(∀j,m<=j->E.getD j false=false)->wpList P L.toArray vS (L.drop m) G N->wpAny P .any L.toArray vS f E G N:=by
 intro f
 induction f with
 |zero=>
  intro m E G N v p Q q A h;have t:L.length<=m:=by omega
  rw[YaN t]at h;refine⟨?_,h⟩
  cases Y:Region.ready .any L.toArray E with
  |nil=>rfl
  |cons x M=>
   obtain⟨C,o,s,_⟩:=NM F Q (i:=x) (by rw[Y];simp);have:=q x (by have:=(Yae.1 s).1;omega);rw[C]at this;cases this
 |succ f u=>
  intro m E G N v p Q q A h;have t:m<L.length:=by omega
  refine⟨λc=>?_,λi J=>?_⟩
  .obtain ⟨k,_,B⟩:=LI F Q m t (A m (Yai _))
   rw[c]at B;cases B
  .obtain ⟨l,o,s,Z⟩:=NM F Q J
   have n:=(Yae.1 s).1
   have z:m<=i:=by
    rcases YaI i m with O | hge
    .have:=q i O;rw[l]at this;cases this
    .exact hge
   have S:∀j W,L[j]? = some W->E.getD j false=true->∀e∈Bw W,E.getD e false=true:=λj W V I e b=>by
    have y:j<m:=by
     rcases YaI j m with O | hge
     .exact O
     .rw [A j hge]at I;cases I
    exact q e (Yer ((CQ F V).1 e b) y)
   have H:i=m:=by
    rcases YaI m i with O | hge
    .have:=Lk F Q S ZbC s Z m O
     rw[A m (Yai _)]at this;cases this
    .omega
   subst H;rw[Ycs t]at h;have heq:L[i]=o:=by rw[Yab t]at s;exact Yag s
   rw[heq]at h
   have g:∀a w,wpList P L.toArray vS (L.drop (i+1)) a w->wpAny P .any L.toArray vS f (E.setIfInBounds i true) a w:=λa w K=>
    u (i + 1) _ a w ZbC ZbC (by simpa using Q) (fun j X => by
     by_cases d:j=i
     .subst d;simp[Q,t]
     .exact getD_set_true (q j ZbC)) (λj X=>by rw[getD_set_ne false ZbC];exact A j ZbC) K
   unfold wpOp;have r:L.toArray[i]? = some o:=by simpa using s
   rw[r];simp only[wpList]at h ⊢;split
   .rename_i K;rw[Yao K]at h;exact h.imp (Oper.wp_mono g) id
   .rename_i K;rw[Yaj K]at h;exact g _ _ h
theorem Hy{g:Nat->Value}:∀(l:List Oper) (i:Nat) (b:Act),(∀(j k:Nat) (o x:Oper) (d:Nat),l[j]? = some o->l[k]? = some x->o.dst=some d->x.dst=some d->j=k)->(∀o∈l,∀d,o.dst=some d->d<b.tmps.size) ->
  (FH g l i b).tmps.size=b.tmps.size/\(FH g l i b).defers=b.defers /\
  (∀(j:Nat) (o:Oper) (d:Nat),l[j]? = some o->o.dst=some d->(FH g l i b).tmps[d]? = some (g (i+j))) /\
  (∀t:Nat,(∀(j:Nat) (o:Oper),l[j]? = some o->o.dst≠some t)->(FH g l i b).tmps[t]? = b.tmps[t]?)
 |[],i,b,_,_=>⟨rfl,rfl,λj o d h=>by simp at h,λt _=>rfl⟩
 |o::l,i,b,G,E=>by
  have F:(b.put o.dst (g i)).tmps.size=b.tmps.size:=by unfold Act.put;split<;>simp
  obtain⟨q,A,K,Q⟩:=Hy (g:=g) l (i+1) (b.put o.dst (g i)) (λj k f O d X B W I=>by
   have:=G (j+1) (k+1) f O d ZdP ZcZ W I;omega) (λx M d J=>by rw[F];exact E x (by simp[M]) d J)
  refine⟨q.trans F,A.trans (by unfold Act.put;split<;>rfl),λj x d X S=>?_,λt C=>?_⟩
  .cases j with
   |zero=>
    simp at X;subst X;show(FH g l (i+1) (b.put o.dst (g i))).tmps[d]? = _
    rw[Q d λk O B e=>by
     have:=G 0 (k+1) o O d rfl ZcZ S e;omega]
    have:=E o ZbR d S;simp[Act.put,S,this]
   |succ j=>
    have:=K j x d ZdP S;rw[show i+(j+1)=i+1+j by omega];exact this
  .show (FH g l (i+1) (b.put o.dst (g i))).tmps[t]? = _
   rw[Q t λk O B=>C (k+1) O ZcZ];have c:=C 0 o rfl;unfold Act.put;split
   .rename_i N J
    have:N≠t:=λe=>c (by rw[J,e]);exact ZjD
   .rfl
theorem On{x y:Act}(h:x.tmps=y.tmps)(b:x.defers=y.defers):x=y:=by
 cases x;cases y;simp_all
theorem head_run(T:Ee L sh=true)(Y:Ia L sh.length a.tmps.size=true)
  (xA:∀F∈Rs,∀U w1 w2,Ext w1 w2->F U w1->F U w2) (xp:StepsAt P sh Rs a w0 0 L sh Rs)
  (xu:∀g O,Ext w0 O->(∀(j:Nat) (y:Shape) (F:Fact),sh[j]? = some y->Rs[j]? = some F->F (y.deps.map g) O)->wpList P L.toArray vS (L.drop sh.length) (FH g (L.take sh.length) 0 a) O) :
  ∀(f:Nat) (H:Array Bool) (g:Nat->Value) (a':Act) (O:World),JI H=f->HInv L sh Rs a w0 H g a' O->wpAny P .any L.toArray vS f H a' O:=by
 obtain⟨xb,xo⟩:=xp.at;intro f
 induction f with
 |zero=>
  intro H g a' O s xa
  have xe:∀j,j<L.length->H.getD j false=true:=λj X=>Zac
  refine NJ T 0 L.length H a' O (DK T) ZbC xa.size xe (λj X=>by simp[xa.size,X]) ?_
  exact Zad
 |succ f ih=>
  intro H g a' O s xa;by_cases xk:∀j,j<sh.length->H.getD j false=true
  .have xI:f+1+sh.length=L.length:=Zae
   refine NJ T (f+1) sh.length H a' O (Yai _) xI xa.size xk xa.tail ?_;have:=xu g O xa.ext λj y F N hF=>xa.facts j y F N hF (xk j (ER N))
   have xG:FH g (L.take sh.length) 0 a=a':=Zaf
   rw[xG]at this;exact this
  .have xH:∃j,j<sh.length/\H.getD j false=false:=Ydo λxn=>xk λj X=>Zag
   obtain⟨j0,xL,xs⟩:=xH;refine⟨λc=>?_,λi K=>?_⟩
   .obtain ⟨k,_,C⟩:=LI T xa.size j0 (Yaq xL (DK T)) xs
    rw[c]at C;cases C
   .obtain ⟨xg,o,u,xf⟩:=NM T xa.size K
    have xr:i<sh.length:=Zah
    have E:sh[i]? = some sh[i]:=Yab xr;obtain⟨F,hF,w⟩:=xo i o _ u E;rw[YaH]at w;have xm:i<H.size:=Zjq
    have xn:=(CQ T u).2.1 _ E;simp only[Fr,Yam]at xn
    obtain⟨xv,xw⟩:=w g O (QR a g sh[i].env) xa.ext (λx xt j X y G N hG=>by
      have:x=sh[i]:=Yag (xt.symm.trans E);subst this;exact xa.facts j y G N hG (En T xa.closed i _ o E u xf j X))
     (SQ λp J=>by
      obtain⟨A,B,z,xc,xd⟩:=HZ T E u J
      cases xi:sh[i].env.find? (λq=>q.1==p.1)with
      |none=>have:=Ycl.1 xi p J;simp at this
      |some q=>
       have m:=Ybp xi;have xM:q.1=p.1:=by simpa using YcJ xi
       obtain⟨_,S,o2,xx,xq⟩:=HZ T E u m;rw[xM]at xq;have:=GG T S B xx xc xq xd;simp only[QR,xi,this])
     (λt M=>by
      have:sh[i].env.find? (λq=>q.1==t)=none:=Ycl.2 λp J=>by simpa using M p J
      simp only[QR,this])
     (λ_=>rfl) (λ_=>rfl)
    have xN:=wanted_of T xa u E xf
    have xJ:∀v w2 b,(a'.put o.dst v)=b->Ext O w2->F (sh[i].deps.map (upd g i v)) w2->wpAny P .any L.toArray vS f (H.setIfInBounds i true) b w2:=λv w2 b I V xy=>by
     subst I;refine ih _ (upd g i v) _ _ ?_ (step_inv T Y xA xa u E hF xg xf V xy);have:=Nq xm xg;omega
    unfold wpOp;have xx:L.toArray[i]? = some o:=by simpa using u
    rw[xx];show if Region.wanted o (yielded L.toArray a'.tmps)=true then _ else _
    rw[xN];split
    .rename_i hw
     exact ZjE
    .rename_i hw
     exact xJ undef O _ rfl (Ext.refl _) (xw (by simpa using hw))
theorem wp_region_ext{L:List Oper}{a:Act}(v:P.follows .mixedOrders=true)(sh:List Shape)(Rs:List Fact)(C:Ee L sh=true)(q:Ia L sh.length a.tmps.size=true)
  (G:∀F∈Rs,∀J k B,Ext k B->F J k->F J B) (u:StepsAt P sh Rs a w.drew 0 L sh Rs)
  (z:∀g N,Ext w.drew N->(∀(j:Nat) (y:Shape) (F:Fact),sh[j]? = some y->Rs[j]? = some F->F (y.deps.map g) N)->wpList P L.toArray vS (L.drop sh.length) (FH g (L.take sh.length) 0 a) N) :
  (Code.region n L.toArray true).wp P vS a w:=by
 refine wp_region_any v ?_;have E:JI (Array.replicate L.toArray.size false)=L.toArray.size:=by simp[JI,List.filter_replicate]
 refine head_run C q G u z _ _ (λ_=>undef) a _ E ?_
 have A:∀j,(Array.replicate L.toArray.size false).getD j false=false:=λj=>Zai
 exact⟨by simp,(λj o _ h=>by rw[A]at h;cases h),λt _=>A t,rfl,rfl,(λj o d _ _ h=>by rw[A]at h;cases h),λt _=>rfl,(λj y F _ _ h=>by rw[A]at h;cases h),Ext.refl _⟩
end
abbrev VFact:=Value->World->Prop
def OpsKnown(R:List VFact)(i:Operand->Value)(w:World):List (Nat×Nat)->Prop
 |[]=>True
 |(t,j)::r=>(∀F,R[j]? = some F->F (i (.tmp t)) w)/\OpsKnown R i w r
def UStep(P:Program)(R:List VFact)(a:Act)(q:World)(o:Oper)(env:List (Nat×Nat))(F:VFact):Prop:=
 ∀(w:World) (i:Operand->Value),Ext q w->OpsKnown R i w env ->
  (∀t,(∀p∈env,p.1≠t)->i (.tmp t)=a.tmps.getD t undef)->(∀v,i (.const v)=v)->(∀f,i (.func f)=.func (.func f) #[] #[]) ->
  match o.guard with
  |none=>OpStep P o i w λv N=>Ext w N/\F v N
  |some (j,b)=>∀S,(∀G,R[j]? = some G->G S w)->(S=.bool b->OpStep P o i w λv N=>Ext w N/\F v N)/\(S≠.bool b->F undef w)
def USteps(P:Program)(R:List VFact)(a:Act)(b:World):List Oper->List (List (Nat×Nat))->List VFact->Prop
 |o::L,x::S,F::T=>UStep P R a b o x F/\USteps P R a b L S T
 |_,[],[]=>True
 |_,_,_=>False
theorem USteps.cons{R:List VFact}{a:Act}{L:List Oper}{x:List (Nat×Nat)}{S:List (List (Nat×Nat))}{F:VFact}{T:List VFact}(h:UStep P R a w va x F)(q:USteps P R a w L S T) :
  USteps P R a w (va::L) (x::S) (F::T):=⟨h,q⟩
theorem USteps.nil{R:List VFact}{a:Act}{L:List Oper}:USteps P R a w L [] []:=by cases L<;>trivial
def Gq:Nat->List (List (Nat×Nat))->List (List Nat)->List Shape
 |i,e::z,b::x=>⟨e,b,[i]⟩::Gq (i+1) z x
 |_,_,_=>[]
theorem Lq:∀{z:List (List (Nat×Nat))} {B:List (List Nat)} {i k:Nat} {x:Shape},(Gq i z B)[k]? = some x->x.deps=[i+k]/\z[k]? = some x.env
 |[],_,i,k,x,h=>by simp[Gq]at h
 |_::_,[],i,k,x,h=>by simp[Gq]at h
 |e::z,b::B,i,0,x,h=>by
  simp only[Gq,List.getElem?_cons_zero,YcS]at h;subst h;exact ZjF
 |e::z,b::B,i,k+1,x,h=>by
  simp only[Gq,YcZ]at h;obtain⟨q,A⟩:=Lq h;exact⟨by rw[q];congr 1;omega,by simpa using A⟩
def unF(F:VFact):Fact:=λJ w=>match J with | [v]=>F v w | _=>False
theorem usteps_steps{P:Program}{a:Act}{w0:World}{Fs:List VFact}{sh:List Shape}{L0:List Oper}(d:Ee L0 sh=true)(xq:∀(k:Nat) (x:Shape),sh[k]? = some x->x.deps=[k]) :
  ∀{L:List Oper} {z:List (List (Nat×Nat))} {bs:List (List Nat)} {T:List VFact} {i:Nat},(∀k,L[k]? = L0[i+k]?)->(∀k,(Gq i z bs)[k]? = sh[i+k]?)->z.length=bs.length->USteps P Fs a w0 L z T ->
   StepsAt P sh (Fs.map unF) a w0 i L (Gq i z bs) (T.map unF)
 |L,[],[],[],i,_,_,_,_=>by cases L<;>exact trivial
 |L,[],[],_::_,i,_,_,_,h=>by cases L<;>exact h.elim
 |L,[],_::_,T,i,_,_,K,h=>by simp at K
 |L,_::_,[],T,i,_,_,K,h=>by simp at K
 |[],_::_,_::_,T,i,_,_,_,h=>by cases T<;>exact h.elim
 |_::_,_::_,_::_,[],i,_,_,_,h=>h.elim
 |o::L,e::z,b::bs,F::T,i,H,u,K,h=>Zaj
theorem wp_region_u{L:List Oper}(A:P.follows .mixedOrders=true)(z:List (List (Nat×Nat)))(O:List (List Nat))(R:List VFact)
  (o:(z.length==O.length&&z.length==R.length)=true) (B:Ee L (Gq 0 z O)=true) (d:Ia L z.length vl.tmps.size=true)
  (t:∀F∈R,∀v E K,Ext E K->F v E->F v K) (V:USteps P R vl w.drew L z R)
  (W:∀(g:Nat->Value) (N:World),Ext w.drew N->(∀(j:Nat) (F:VFact),R[j]? = some F->F (g j) N)->wpList P L.toArray vS (L.drop z.length) (FH g (L.take z.length) 0 vl) N) :
  (Code.region n L.toArray true).wp P vS vl w:=Zak
def Stab(F:VFact):Prop:=∀v k N,Ext k N->F v k->F v N
def StabAll:List VFact->Prop
 |[]=>True
 |F::r=>Stab F/\StabAll r
theorem StabAll.cons{F:VFact}{r:List VFact}(h:Stab F)(a:StabAll r):StabAll (F::r):=⟨h,a⟩
theorem StabAll.nil:StabAll []:=trivial
theorem StabAll.mem:∀{R:List VFact},StabAll R->∀F∈R,Stab F
 |[],_,F,h=>by cases h
 |G::r,h,F,hF=>Zal
theorem Stab.eq(u:Value):Stab (λv _=>v=u):=λ_ _ _ _ h=>h
variable{uP:VFact}
theorem AD{v:Value}(h:(execOp uy va).run P w=.ok (.value v) w)(hF:uP v w):OpStep P va uy w λv N=>Ext w N/\uP v N:=by
 unfold OpStep;rw[h];exact⟨Ext.refl _,hF⟩
theorem Yu{v:Value}(h:(execOp uy va).run P w=.ok (.value v) p)(Z:Ext w p)(hF:uP v p):OpStep P va uy w λv p=>Ext w p/\uP v p:=by
 unfold OpStep;rw[h];exact⟨Z,hF⟩
theorem CF{f:FuncId}{R:Ending->World->Prop}(h:(execOp uy va).run P w=.ok (.enter f vB) w)(G:Calls P f vB w R)
  (E:∀e N,R e N->∃v,e=.returned v/\Ext w N/\uP v N):OpStep P va uy w λv N=>Ext w N/\uP v N:=by
 unfold OpStep;rw[h];exact G.mono E
theorem wp_region_v{L:List Oper}(v:P.follows .mixedOrders=true)(z:List (List (Nat×Nat)))(x:List (List Nat))(R:List VFact)
  (o:(z.length==x.length&&z.length==R.length)=true) (C:Ee L (Gq 0 z x)=true) (d:Ia L z.length vl.tmps.size=true) (stab:StabAll R) (steps:USteps P R vl w.drew L z R)
  (fin:∀(g:Nat->Value) (N:World),Ext w.drew N->(∀(j:Nat) (F:VFact),R[j]? = some F->F (g j) N)->wpList P L.toArray vS (L.drop z.length) (FH g (L.take z.length) 0 vl) N) :
  (Code.region n L.toArray true).wp P vS vl w:=
 wp_region_u v z x R o C d (λF hF=>stab.mem F hF) steps fin
def BB:Nat:=4294967296
theorem CS:0<BB:=by decide
theorem BF:BB=4294967296:=rfl
theorem UK:1<BB:=by decide
def val:List Nat->Nat
 |[]=>0
 |x::l=>x+BB*val l
def Aw(n:Nat):List Nat:=if h:n=0 then[]else(n%BB)::Aw (n/BB)
termination_by n
decreasing_by exact Ydx (YbC h) ZbH
def BK(l:List Nat):Prop:=∀x∈l,x<BB
theorem BJ:Aw 0=[]:=by rw[Aw];simp
theorem Fl(h:n≠0):Aw n=(n%BB)::Aw (n/BB):=by rw[Aw];simp[h]
theorem AK(n:Nat):val (Aw n)=n:=by
 induction n using Nat.strongRecOn with
 |_ n u=>
  by_cases h:n=0
  .subst h;rw[BJ];rfl
  .rw [Fl h]
   show n%BB+BB*val (Aw (n/BB))=n;rw[u (n/BB) (Ydx (YbC h) ZbH)];exact YcK n BB
theorem BG(n:Nat):BK (Aw n):=by
 induction n using Nat.strongRecOn with
 |_ n u=>
  by_cases h:n=0
  .subst h;rw[BJ];intro x C;cases C
  .rw [Fl h]
   intro x C;rcases YaL.1 C with rfl | C
   .exact YaR _ CS
   .exact u (n/BB) (Ydx (YbC h) ZbH) x C
theorem IL(l m:List Nat):val (l++m)=val l+BB^l.length*val m:=by
 induction l with
 |nil=>simp[val]
 |cons x l u=>
  simp only[Ycn,val,u,Yat,Ybt];rw[YaG,YbR,YaM (BB^l.length) BB,Yba]
theorem Ei(h:BK l):val l<BB^l.length:=by
 induction l with
 |nil=>simp[val]
 |cons x l u=>
  have q:=h x ZbR;have A:=u λy M=>h y (by simp[M]);simp only[val,Yat,Ybt];have K:BB*(val l+1)<=BB*BB^l.length:=Yas _ A;rw[YaG,YaM BB (BB^l.length)]at K;omega
def El:List Nat->List Nat
 |[]=>[]
 |x::l=>match El l with
  |[]=>if x=0 then[]else[x]
  |y::r=>x::y::r
theorem A36(l:List Nat):val (El l)=val l:=by
 induction l with
 |nil=>rfl
 |cons x l u=>
  simp only[El];split
  .rename_i h
   rw[h]at u;have u:val l=0:=by rw[<-u];rfl
   split
   .subst x;simp[val,u]
   .simp [val,u]
  .rename_i y r h
   rw[h]at u;show x+BB*val (y::r)=x+BB*val l;rw[u]
theorem Bn(h:BK l):El l=Aw (val l):=by
 induction l with
 |nil=>simp[El,val,BJ]
 |cons x l u=>
  have C:=h x ZbR;have u:=u λy M=>h y (by simp[M]);have d:(x+BB*val l)/BB=val l:=by rw[Nat.add_mul_div_left _ _ CS,YbK C];omega
  have v:(x+BB*val l)%BB=x:=by rw[Nat.add_mul_mod_self_left,YaV C]
  simp only[El,val];split
  .rename_i c
   have A:val l=0:=by rw[<-A36,c];rfl
   split
   .subst x;simp[A,BJ]
   .rename_i B
    rw[Fl ZbC,d,v,A,BJ]
  .rename_i y r c
   have B:x+BB*val l≠0:=by
    intro e
    have A:val l=0:=by
     have:=CS;rcases YaB (val l)with q | q
     .exact q
     .have:=Yda this q;omega
    rw[A,BJ,c]at u;cases u
   rw[Fl B,d,v,<-u,c]
theorem QL(l:List Nat):El (l++[0])=El l:=by
 induction l with
 |nil=>simp[El]
 |cons x l u=>simp only[Ycn,El,u]
theorem A0i(h:n≠0):El (l++[n])=l++[n]:=by
 induction l with
 |nil=>simp[El,h]
 |cons y l u=>
  simp only[Ycn,El,u];cases l<;>simp
theorem Io(l:List Nat):(El l).length<=l.length:=by
 induction l with
 |nil=>simp[El]
 |cons x l u=>
  simp only[El];split
  .split<;>simp
  .rename_i y r h;rw[h]at u;simpa using u
theorem RD{k:Nat}(B:k<l.length)(c:l[k]=0):El (l.take (k+1))=El (l.take k):=by
 rw[Ycp B,c,QL]
theorem MX{k:Nat}(B:k<l.length)(c:l[k]≠0):El (l.take (k+1))=l.take (k+1):=by
 rw[Ycp B,A0i c]
def Words(w:World)(v:Value)(l:List Nat):Prop:=
 ∃(A:Option Addr) (c:Nat),v=.slice A l.length c/\l.length<=c/\c<=9223372036854775807/\BK l /\
  (0<l.length->∃(b o:Nat) (f:Array Value) (K:Nat×Nat),A=some ⟨b,o,none⟩/\w.heap[b]? = some (.cells f 335 K)/\∀i,(J:i<l.length)->f[o+i]? = some (.int .u32 (l[i]:Nat)))
theorem Bv{o:Obj}(h:w.heap[n]? = some o):n<w.heap.size:=(YbA.1 h).1
theorem Words.ext{v:Value}(h:Words w v l)(q:Ext w p):Words p v l:=by
 obtain⟨A,c,r,G,B,a,C⟩:=h;refine⟨A,c,r,G,B,a,λI=>?_⟩;obtain⟨b,o,f,K,F,E,J⟩:=C I;exact⟨b,o,f,K,F,(q.block (Bv E)).trans E,J⟩
theorem Words.small{v:Value}(h:Words w v l):BK l:=by
 obtain⟨_,_,_,_,_,a,_⟩:=h;exact a
theorem Words.nil(w:World)(A:Option Addr)(c:Nat)(G:c<=9223372036854775807):Words w (.slice A 0 c) []:=⟨A,c,rfl,Yay _,G,(λx C=>by cases C),(λh=>by cases h)⟩
theorem CU{b o:Nat}{K:Nat×Nat}(h:w.heap[b]? = some (.cells vB t K)):w.cell? ⟨b,o,none⟩=vB[o]?:=by simp[World.cell?,h]
theorem Words.open_{v:Value}(h:Words w v l):∃(A:Option Addr) (c:Nat),v=.slice A l.length c/\l.length<=c/\c<=9223372036854775807 /\
  (0<l.length->∃(b o:Nat),A=some ⟨b,o,none⟩/\b<w.heap.size/\∀i,i<l.length->w.cell? ⟨b,o+i,none⟩=some (.int .u32 (l.getD i 0:Nat))):=by
 obtain⟨A,c,r,G,q,a,C⟩:=h;refine⟨A,c,r,G,q,λI=>?_⟩;obtain⟨b,o,f,K,B,E,J⟩:=C I;exact⟨b,o,B,Bv E,λi F=>by rw[CU E,J i F];simp[F]⟩
theorem Words.take{c:Nat}(h:Words w (.slice uz l.length c) l){k:Nat}(B:k<=l.length):Words w (.slice uz k c) (l.take k):=by
 obtain⟨O,A,r,G,v,a,C⟩:=h;injection r with q _ K
 subst q;subst K;have I:(l.take k).length=k:=by simp[B]
 refine⟨uz,c,by rw[I],by omega,v,λx C=>a x (Ybh C),λF=>?_⟩;obtain⟨b,o,f,L,M,E,J⟩:=C ZbC;exact⟨b,o,f,L,M,E,λi P=>by rw[J i ZbC];simp⟩
def wv(l:List Nat):Array Value:=(l.map λx=>Value.int .u32 (x:Nat)).toArray
theorem A7H(l:List Nat):(wv l).size=l.length:=by simp[wv]
theorem A4T(h:n<l.length):(wv l)[n]? = some (.int .u32 (l[n]:Nat)):=by simp[wv,h]
theorem Ec(h:n<l.length):(wv l)[n]? = some (.int .u32 (l.getD n 0:Nat)):=by simp[wv,h]
theorem JD(l:List Nat)(i x:Nat):(wv l).setIfInBounds i (.int .u32 (x:Nat))=wv (l.set i x):=by simp[wv,Yes]
def Blk(w:World)(g:Nat)(t:TypeId)(f:Array Value):Prop:=w.heap[g]? = some (.cells f t (0,0))
theorem Blk.lt{g:Nat}(h:Blk w g t vB):g<w.heap.size:=Bv h
theorem Blk.cell{g:Nat}(h:Blk w g t vB)(i:Nat):w.cell? ⟨g,i,none⟩=vB[i]?:=CU h
theorem Blk.frozen(h:Blk w n t vB)(i:Nat):w.frozen? ⟨n,i,none⟩=false:=by
 unfold Blk at h;simp[World.frozen?,h]
theorem Blk.new(w:World)(t:TypeId)(f:Array Value):Blk (w.alloc (.cells f t)) w.heap.size t f:=heap_alloc_new w _
theorem EV{b:Nat}(t:TypeId)(f:Array Value)(h:b=w.heap.size):Blk (w.alloc (.cells f t)) b t f:=h▸Blk.new w t f
theorem Blk.drew{g:Nat}(h:Blk w g t vB):Blk w.drew g t vB:=h
theorem Blk.alloc{g:Nat}(h:Blk w g t vB)(o:Obj):Blk (w.alloc o) g t vB:=(Below.heap_alloc w o g h.lt).trans h
theorem Blk.set{g:Nat}(h:Blk w g t vB)(i:Nat)(u:Value):Blk (w.setCell ⟨g,i,none⟩ u) g t (vB.setIfInBounds i u):=by
 unfold Blk at h ⊢;simp[World.setCell,YdN,h]
theorem Blk.far(h:Blk w n t vB){p:Addr}(F:n≠p.block)(u:Value):Blk (w.setCell p u) n t vB:=(Below.heap_setCell w p u n F).trans h
theorem Blk.ext{g:Nat}(h:Blk w g t vB)(b:Ext w p):Blk p g t vB:=(b.block h.lt).trans h
theorem CJ{c:Nat}(h:Blk w n 335 (wv l))(a:BK l)(G:l.length<=c)(v:c<=9223372036854775807):Words w (.slice (some ⟨n,0,none⟩) l.length c) l:=
 ⟨_,c,rfl,G,v,a,λ_=>⟨n,0,_,_,rfl,h,λi J=>by rw[YaH];exact A4T J⟩⟩
def Ty(w:World)(b:Nat)(t:TypeId):Prop:=∃f K,w.heap[b]? = some (.cells f t K)
theorem Ty.ext{b:Nat}(h:Ty w b t)(q:Ext w p):Ty p b t:=by
 obtain⟨f,K,h⟩:=h;exact⟨f,K,(q.block (Bv h)).trans h⟩
theorem Ty.set{b:Nat}(h:Ty w b t)(p:Addr)(u:Value):Ty (w.setCell p u) b t:=by
 obtain⟨f,K,h⟩:=h;by_cases E:b=p.block
 .subst E
  exact⟨_,K,by simp[World.setCell,YdN,h];rfl⟩
 .exact ⟨f,K,(Below.heap_setCell w p u b E).trans h⟩
theorem Ty.new(w:World)(f:Array Value)(t:TypeId):Ty (w.alloc (.cells f t)) w.heap.size t:=⟨f,_,heap_alloc_new w _⟩
theorem Fy(f:Array Value)(t:TypeId)(h:n=w.heap.size):Ty (w.alloc (.cells f t)) n t:=h▸Ty.new w f t
theorem Ty.drew{b:Nat}(h:Ty w b t):Ty w.drew b t:=h
theorem Ty.alloc{b:Nat}(h:Ty w b t)(o:Obj):Ty (w.alloc o) b t:=h.ext ((Ext.refl _).alloc o)
theorem Blk.ty{g:Nat}(h:Blk w g t vB):Ty w g t:=⟨vB,_,h⟩
theorem Ext.set{w k:World}(h:Ext w k){p:Addr}(F:w.heap.size<=p.block)(u:Value):Ext w (k.setCell p u):=Below.setCell h F u
theorem Words.set{v:Value}(h:Words w v l){p:Addr}(L:Ty w p.block t)(F:t≠335)(u:Value):Words (w.setCell p u) v l:=by
 obtain⟨A,c,r,G,q,a,C⟩:=h;refine⟨A,c,r,G,q,a,λI=>?_⟩;obtain⟨b,o,f,K,N,E,J⟩:=C I
 have g:b≠p.block:=by
  rintro rfl;obtain⟨M,O,B⟩:=L;rw[E]at B;injection B with B
  injection B with _ i
  exact F i.symm
 exact⟨b,o,f,K,N,(Below.heap_setCell w p u b g).trans E,J⟩
theorem TP(h:n<l.length):val (l.take (n+1))=val (l.take n)+BB^n*l.getD n 0:=by
 rw[Ycp h,IL];simp[val,h,Yby (Yca h)]
theorem XO(h:l.length<=n):val (l.take (n+1))=val (l.take n)+BB^n*l.getD n 0:=by
 rw[Yar h,Yar ZbC];simp[h]
theorem Bf(l:List Nat)(k:Nat):val (l.take (k+1))=val (l.take k)+BB^k*l.getD k 0:=by
 rcases YaI k l.length with h | h
 .exact TP h
 .exact XO h
theorem Dw:(l.set n b).take n=l.take n:=by
 rw[List.take_set,List.set_eq_of_length_le ZgV]
theorem Cq{k x:Nat}(h:k<l.length):(l.set k x).getD k 0=x:=by simp[h]
theorem Be(h:BK l)(k:Nat):l.getD k 0<BB:=by
 rcases YaI k l.length with B | B
 .simp only[Yaa,Yab B,Option.getD_some]
  exact h _ (Ybs B)
 .simp [B,CS]
theorem Dq(h:BK l)(k:Nat)(C:n<BB):BK (l.set k n):=λy M=>by
 rcases Yew M with q | q
 .exact h y q
 .rw [q];exact C
theorem Cv(n:Nat):BK (List.replicate n 0):=λx C=>by
 rw[List.eq_of_mem_replicate C];exact CS
theorem A3f(B:n<vo.length)(C:l.getD n 0=T)(M:g.getD n 0=m)(z:T<BB)(k:m<BB)(G:b<=1)
  (h:val (vo.take n)+BB^n*b=val (l.take n)+val (g.take n)) :
  val ((vo.set n ((T+b+m)%BB)).take (n+1))+BB^(n+1)*((T+b+m)/BB)=val (l.take (n+1))+val (g.take (n+1))/\(T+b+m)/BB<=1:=by
 constructor
 .rw [Bf,Dw,Cq B,Bf l,Bf g,C,M]
  have e:=YcK (T+b+m) BB
  have o:BB^n*((T+b+m)%BB)+BB^(n+1)*((T+b+m)/BB)=BB^n*(T+b+m):=by
   rw[Ybt,Yba,<-YaG,e]
  have H:BB^n*(T+b+m)=BB^n*T+BB^n*b+BB^n*m:=by rw[YaG,YaG]
  omega
 .have:T+b+m<2*BB:=by omega
  have:=Ybu (show T+b+m<BB*2 by omega);omega
theorem Ek(v:Value)(l:List Nat)(w:World)(h:Words w v l) :
  Calls prog 287 #[v] w λe N=>∃X,e=.returned X/\Words N X (El l)/\Ext w N:=by
 obtain⟨A,c,rfl,G,I,C⟩:=h.open_;have H:=Af h;have a:=Af h.small;clear h;have S:=Af C;clear C;obtain⟨n,g⟩:∃n,n=l.length:=⟨_,rfl⟩;rw[<-g]at G ⊢;have M:=Af g;clear g;go_enter func287,ntmps287;go_wp2;go_loop [3] (λt=>∃k:Nat,k<=n/\t=.int .i64 k/\Hid (El l=El (l.take k))) (λt=>(intOf t).toNat)
 case atStart=>exact ZjG
 case round=>
  exact Zam
theorem CB(n:Nat)(g:n<=70368744177664)(A q:IntKind)(W:World) :
  (Instr.makeSlice 107 (.int A (n:Int)) (.int q (n:Int))).run prog W=.ok (.slice (some ⟨W.heap.size,0,none⟩) n n) (W.alloc (.cells (wv (List.replicate n 0)) 335)):=by
 obtain⟨i,J,V,b,h⟩:=info_parts (show(Tryz.prog.info? 335).map (λi=>(i.zero,i.size,i.bytes))=some (some (.int .u32 0),1,4)by kernel_rfl);have E:(i.bytes:Int)*(n:Int)<=281474976710656:=by rw[h];omega
 have Y:=run_make (P:=prog) W 107 335 i (.int .u32 0) underlying107 J V A q n n ZbC ZbC E ZbC;simp only[YdK]at Y;rw[Y]
 have:madeCells (Value.int .u32 0).cells (n*i.size)=wv (List.replicate n 0):=by
  apply Array.ext';rw[b,Ybz];show(madeCells #[Value.int .u32 0] n).toList=_;rw[toList_madeCells_one];simp[wv]
 rw[this]
def Adg(w wr:World)(Z y r:List Nat)(n k S:Nat):Prop:=
 r.length=n+1/\BK r/\Blk wr w.heap.size 335 (wv r)/\val (r.take k)+BB^k*S=val (Z.take k)+val (y.take k)/\Ext w wr
def DifRel(w wr:World)(Z y r:List Nat)(n k S:Nat):Prop:=
 r.length=n/\BK r/\Blk wr w.heap.size 335 (wv r)/\val (r.take k)+val (y.take k)=val (Z.take k)+BB^k*S/\Ext w wr
theorem DifRel.step{Z N r:List Nat}{n k S x y:Nat}(h:DifRel w p Z N r n k S)(C:k<n)(E:Z.getD k 0=x)(M:N.getD k 0=y)(V:x<4294967296)(X:y<4294967296)(G:S<=1){u z:Int}
  (L:u=(x+BB*(if x<S+y then 1 else 0)-S-y:Nat)) (I:z=(if x<S+y then 1 else 0:Nat)) :
  ∃(O J:Nat) (b:List Nat),O<=n/\Value.int .i64 ((k:Int)+1)=.int .i64 O/\Value.int .u64 z=.int .u64 J/\J<=1/\Hid (DifRel w (p.setCell ⟨w.heap.size,k,none⟩ (.int .u32 u)) Z N b n O J):=by
 obtain⟨A,B,K,Q,F⟩:=h;have Y:(if x<S+y then 1 else 0:Nat)<=1:=by split<;>omega
 have a:x+BB*(if x<S+y then 1 else 0)-S-y<BB:=by rw[BF];split<;>omega
 have m:x+BB*(if x<S+y then 1 else 0)-S-y+y+S=x+BB*(if x<S+y then 1 else 0):=by rw[BF];split<;>omega
 generalize (if x<S+y then 1 else 0:Nat)=J at *;generalize x+BB*J-S-y=q at *;refine⟨k+1,J,r.set k q,C,by simp,by rw[I],Y,by simpa using A,Dq B k a,?_,?_,Below.setCell F (Yai _) _⟩
 .rw [L,<-JD]
  exact K.set k _
 .rw [Bf, Dw, Cq ZbC, Bf Z, Bf N, E, M]
  have W:BB^k*q+BB^k*y+BB^k*S=BB^k*x+BB^(k+1)*J:=by
   rw[Ybt,Yba,<-YaG,<-YaG,<-YaG,m]
  omega
theorem DifRel.close{Z y r:List Nat}(h:DifRel w p Z y r n n b)(g:Z.length=n)(v:y.length<=n)(B:val y<=val Z):val r=val Z-val y:=by
 obtain⟨q,A,K,Q,k⟩:=h;have C:Z.take n=Z:=Yar ZbC;have E:y.take n=y:=Yar v;have d:r.take n=r:=Yar ZbC;rw[C,E,d]at Q;have O:=Ei A;rw[q]at O;rcases YaB b with c | c
 .subst c;omega
 .have:BB^n*1<=BB^n*b:=Yas _ c
  omega
theorem NG:∀{r:List Nat} {p q z:Nat},p<q->p<r.length->val ((r.set p z).take q)+BB^p*r.getD p 0=val (r.take q)+BB^p*z
 |[],p,q,z,_,h=>by simp at h
 |x::r,0,q+1,z,_,_=>by simp[val];omega
 |x::r,p+1,q+1,z,F,I=>by
  have u:=NG (r:=r) (p:=p) (q:=q) (z:=z) ZbC Zdn;simp only[YbB,Ybl,val,Ydb,Ybt];have W:BB^p*BB*r.getD p 0=BB*(BB^p*r.getD p 0):=by rw[YaM (BB^p) BB,Yba]
  have o:BB^p*BB*z=BB*(BB^p*z):=by rw[YaM (BB^p) BB,Yba]
  rw[W,o,YbR,<-YaG,u,YaG,YbR]
def A1M(w wr:World)(Z y r:List Nat)(n m k:Nat):Prop:=
 r.length=n+m/\BK r/\Blk wr w.heap.size 335 (wv r)/\val (r.take (k+m))=val (Z.take k)*val y/\Ext w wr
def MulIn(w wr:World)(Z y r:List Nat)(n m k j x S:Nat):Prop:=
 r.length=n+m/\BK r/\Blk wr w.heap.size 335 (wv r)/\val (r.take (k+m))+BB^(k+j)*S=val (Z.take k)*val y+BB^k*(x*val (y.take j))/\Ext w wr
theorem MulIn.drewN{Z y r:List Nat}{n m k j x S:Nat}(h:MulIn w p Z y r n m k j x S)(q:Nat):MulIn w (p.drewN q) Z y r n m k j x S:=
 ⟨h.1,h.2.1,h.2.2.1,h.2.2.2.1,h.2.2.2.2.drewN q⟩
theorem FU{x y:Nat}(C:x<4294967296)(M:y<4294967296):x*y<=18446744065119617025:=
 Yau (YaX (Nat.le_of_lt_succ C) (Nat.le_of_lt_succ M)) ZbH
theorem MulIn.step{Z O r:List Nat}{n m k j x y z S:Nat}(h:MulIn w p Z O r n m k j x S)(X:j<m)(B:k<n)(M:O.getD j 0=y)(I:r.getD (k+j) 0=z)(W:x<4294967296)(Y:y<4294967296)(a:z<4294967296)(G:S<4294967296){u v:Int}
  (N:u=((x*y+z+S)%BB:Nat)) (J:v=((x*y+z+S)/BB:Nat)) :
  ∃(c L:Nat) (b:List Nat),c<=m/\Value.int .i64 ((j:Int)+1)=.int .i64 c/\Value.int .u64 v=.int .u64 L/\L<4294967296/\Hid (MulIn w (p.setCell ⟨w.heap.size,k+j,none⟩ (.int .u32 u)) Z O b n m k c x L):=by
 obtain⟨q,A,K,Q,C⟩:=h;have E:=FU W Y;have F:(x*y+z+S)/BB<4294967296:=by rw[BF];omega
 refine⟨j+1,(x*y+z+S)/BB,r.set (k+j) ((x*y+z+S)%BB),X,by simp,by rw[J],F,by simpa using q,Dq A _ (YaR _ CS),?_,?_,Below.setCell C (Yai _) _⟩
 .rw [N,<-JD]
  exact K.set _ _
 .have e:=NG (r:=r) (p:=k+j) (q:=k+m) (z:=(x*y+z+S)%BB) ZbC ZbC
  rw[I]at e;have o:=YcK (x*y+z+S) BB
  have H:BB^(k+j)*((x*y+z+S)%BB)+BB^(k+(j+1))*((x*y+z+S)/BB)=BB^(k+j)*(x*y+z+S):=by
   rw[<-YbR,Ybt,Yba,<-YaG,o]
  have V:BB^(k+j)*(x*y+z+S)=BB^(k+j)*(x*y)+BB^(k+j)*z+BB^(k+j)*S:=by rw[YaG,YaG]
  have l:BB^k*(x*val (O.take (j+1)))=BB^k*(x*val (O.take j))+BB^(k+j)*(x*y):=by
   rw[Bf,M,YaG x,YaG (BB^k),YcL];congr 1;rw[Yba,Ybm x,Ybm (BB^j)]
  omega
theorem MulIn.close{Z y r:List Nat}{n m k x S:Nat}(h:MulIn w p Z y r n m k m x S)(B:k<n)(v:y.length=m)(C:Z.getD k 0=x)(G:S<4294967296) :
  A1M w (p.setCell ⟨w.heap.size,k+m,none⟩ (.int .u32 (S:Int))) Z y (r.set (k+m) S) n m (k+1):=by
 obtain⟨q,A,K,Q,E⟩:=h;have F:y.take m=y:=Yar ZbC;rw[F]at Q;refine⟨by simpa using q,Dq A _ (by rw[BF];exact G),?_,?_,Below.setCell E (Yai _) _⟩
 .rw [<-JD];exact K.set _ _
 .rw [show k+1+m=k+m+1 by omega,Bf,Dw,Cq ZbC,Q,Bf Z,C,YbG,Yba]
theorem Yg(P vb:Value)(a l:List Nat)(w:World)(t:Words w P a)(G:Words w vb l)(g:a.length<=4398046511104)(v:l.length<=4398046511104) :
  Calls prog 316 #[P,vb] w λe N=>∃Y,e=.returned Y/\Words N Y (Aw (val a*val l))/\Ext w N:=by
 obtain⟨A,c,rfl,J,xm,F⟩:=t.open_;obtain⟨B,d,rfl,K,xo,M⟩:=G.open_;have xg:=Af t.small;have xk:=Af G.small;clear t G;have hA:=Af F;have hB:=Af M;clear F M;obtain⟨n,U⟩:∃n,n=a.length:=⟨_,rfl⟩;obtain⟨m,T⟩:∃m,m=l.length:=⟨_,rfl⟩;rw[<-U]at J g ⊢;rw[<-T]at K v ⊢;replace U:=Af U;replace T:=Af T;have xj:=λW=>CB (n+m) ZbC .i64 .i64 W;simp only[Ycw]at xj;go_enter func316,ntmps316;go_wp2;go_loopw [19] (λi wr=>∃(k:Nat) (r:List Nat),k<=n/\i=.int .i64 k/\Hid (A1M w wr a l r n m k)) (λi _=>n-(intOf i).toNat)
 case atStart => exact ⟨0, List.replicate (n + m) 0, Yay _, rfl, by simp, Cv _, Blk.new _ _ _, by
  have:∀q,val (List.replicate q 0)=0:=λq=>by
   induction q with
   |zero=>rfl
   |succ q h=>simp[Yef,val,h]
  simp[val,List.take_replicate,this],(Ext.refl _).alloc _⟩
 case round=>
  obtain⟨k,r,E,rfl,S⟩:=hrel;by_cases O:k<n
  .obtain ⟨b, o, rfl, G, s⟩:=hA.out Zew
   replace s:=(S.out.2.2.2.2.cell (p:=⟨b,o+k,none⟩) G).trans (s k Zcl);have xc:=Be xg.out k;generalize F:a.getD k 0=x at *;replace F:=Af F;unfold BB at xc;go_wp2;obtain⟨wo,rfl⟩:∃wo:World,wo=wr:=⟨_,rfl⟩;go_loopw [7,29] (λcy i wr=>∃(j V:Nat) (r:List Nat),j<=m/\i=.int .i64 j/\cy=.int .u64 V/\V<4294967296/\Hid (MulIn w wr a l r n m k j x V)) (λ_ i _=>m-(intOf i).toNat)
   case atStart=>exact⟨0,0,r,Yay _,rfl,rfl,by omega,S.out.1,S.out.2.1,S.out.2.2.1,by simp[val,S.out.2.2.2.1],S.out.2.2.2.2⟩
   case round=>
    obtain⟨j,V,r,X,rfl,rfl,xi,f⟩:=hrel;by_cases xn:j<m
    .obtain ⟨H, Q, rfl, R, xl⟩:=hB.out (by rw [<-T.out]; omega)
     replace xl:=(f.out.2.2.2.2.cell (p:=⟨H,Q+j,none⟩) R).trans (xl j Zec);have xe:=Be xk.out j;have xf:=Be f.out.2.1 (k+j);have u:wr.cell? ⟨w.heap.size,k+j,none⟩=some (.int .u32 (r.getD (k+j) 0:Nat)):=by rw[f.out.2.2.1.cell,Ec (by rw[f.out.1];omega)]
     have xd:=f.out.2.2.1.frozen (k+j);generalize M:l.getD j 0=y at *;generalize L:r.getD (k+j) 0=z at *;replace M:=Af M;replace L:=Af L;unfold BB at xe xf;have I:(x:Int)*y<=18446744065119617025:=by have:=FU xc xe;omega
     have xh:(0:Int)<=(x:Int)*y:=Yct ZbC ZbC;go_wp2;go_quiet (fail);go_wp2;exact⟨(f.out.drewN nq).step xn O M.out L.out xc xe xf xi ZcU ZcU,by simp[intOf];omega⟩
    .obtain rfl:j=m:=by omega
     have u:wr.cell? ⟨w.heap.size,k+j,none⟩=some (.int .u32 (r.getD (k+j) 0:Nat)):=by rw[f.out.2.2.1.cell,Ec (by rw[f.out.1];omega)]
     have xd:=f.out.2.2.1.frozen (k+j);have xa:=Af (f.out.close O T.out.symm F.out xi);go_wp2;exact⟨⟨k+1,_,O,by simp,xa⟩,by simp[intOf];omega⟩
  .obtain rfl:k=n:=by omega
   have p:Hid (Words wr (.slice (some ⟨w.heap.size,0,none⟩) (k+m) (k+m)) r):=by
    have:=CJ (c:=k+m) S.out.2.2.1 S.out.2.1 Zed ZbC;rw[S.out.1]at this;exact this
   have xa:Hid (val r=val a*val l):=by
    have C:=S.out.2.2.2.1;have er:r.take (k+m)=r:=Yar Zed;have ea:a.take k=a:=Yar Zcl;rw[er,ea]at C;exact C
   go_wp2_with (go_at_call 287;refine(Ek _ _ _ p.out).mono ?_;rintro e N ⟨Y,rfl,xb,Z⟩);go_ret;refine⟨Y,rfl,?_,S.out.2.2.2.2.trans Z⟩;rw[Bn S.out.2.1,xa.out]at xb;exact xb
theorem TT(h:w.ownsRow n 335 1 z b (wv l).toList)(a:BK l):Words w z l:=by
 obtain⟨q,A⟩:=h;have I:l.length=b:=by simpa[wv]using q
 rcases A with⟨rfl,rfl⟩ | ⟨g,cap,cur,rfl,_,hg,hc,hm,hsz,ht⟩
 .have:l=[]:=YaE I
  subst this;exact Words.nil _ _ _ ZbC
 .subst I
  refine⟨_,cap,rfl,hc,by simpa[maxLen]using hm,a,λ_=>⟨g,0,cur,(0,0),rfl,hg,λi J=>?_⟩⟩;have:(cur.toList.take (l.length*1))[i]? = (wv l).toList[i]?:=by rw[ht]
  rw[YaK,Yao ZbC]at this;have o:=A4T J;rw[YaH];simpa[o]using this
theorem Nk(w:World)(t Y e:TypeId)(i:TypeInfo)(L:P.underlying t=some (.slice e))(J:P.info? e=some i)(c:Nat) :
  (Builtin.append_ #[t,t] Y #[.slice none 0 0,.slice none 0 c]).run P w=.ok (.slice none 0 0) w:=by
 simp[Builtin.append_,run_underlying L,sizeOf,typeInfo,J,Builtin.lenOf,Builtin.firstCells]
theorem A1b(b o j:Nat):Addr.add ⟨b,o,none⟩ j=⟨b,o+j,none⟩:=by
 unfold Addr.add;split
 .rename_i h;subst h;rfl
 .rfl
theorem GV{rest:List Oper}(T:va.guard=none)(s x:Operand)(t:TypeId)
  (q:va.op=.call { callee:=.builtin .append,args:=#[s,x],argTypes:=#[t,t] }) (v u:Value) (a:vl.eval s=v) (C:vl.eval x=u)
  (m:(Builtin.append_ #[t,t] va.type #[v,u]).run P w=.ok z p) (h:wpList P ua vS rest (vl.put va.dst z) p):wpList P ua vS (va::rest) vl w:=by
 refine wpList_plain T λK g=>?_;unfold Oper.wp execOp;simp only[q,resolve,invoke,builtin,Sem.run_bind,Sem.run_pure,Result.andThen_ok,Yco,Ybb,Ycb,a,C,m];exact g _ _ h
theorem QM(h:Words w (.slice uz l.length n) l)(g:l.length<=35184372088832) :
  ∃B N,(Builtin.append_ #[107,107] 107 #[.slice none 0 0,.slice uz l.length n]).run prog w=.ok B N/\Words N B l/\Ext w N:=by
 obtain⟨i,J,V,Z,e⟩:=info_parts (show(Tryz.prog.info? 335).map (λi=>(i.zero,i.size,i.bytes))=some (some (.int .u32 0),1,4)by kernel_rfl);have a:=h.small;obtain⟨O,E,r,G,v,C⟩:=h.open_;injection r with q _ K
 subst q;subst K
 cases uz with
 |none=>
  have I:l.length=0:=by
   rcases YaB l.length with c | c
   .exact c
   .obtain ⟨b,o,F,_⟩:=C c;cases F
  have:l=[]:=YaE I;subst this;exact⟨_,_,Nk w _ _ _ i underlying107 J n,Words.nil _ _ _ ZbC,Ext.refl _⟩
 |some S=>
  have d:∀(j:Nat) (u:Value),(wv l).toList[j]? = some u->w.cell? (S.add j)=some u:=by
   intro j u Q
   have X:j<l.length:=by
    have:=(Yae.1 Q).1;simpa[wv]using this
   obtain⟨b,o,F,_,L⟩:=C ZbC;have f:=Yag F;subst f;have W:=L j X;have A:=Ec X
   have H:u=.int .u32 (l.getD j 0:Nat):=by
    rw[Ycx,A]at Q;exact(Yag Q).symm
   rw[H,<-W,A1b]
  have Y:∀u∈(wv l).toList,u.oneCell'=true:=by
   intro u Q;have s:u∈l.map λx=>Value.int .u32 (x:Nat):=by simpa[wv]using Q
   obtain⟨x,_,rfl⟩:=YaD.1 s;rfl
  obtain ⟨B, N, m, M, R, _⟩ := run_append_own (P := prog) w w.heap.size 107 107 335 i (.int .u32 0) 1 4 underlying107 J V Z e rfl ZbC
   (.slice none 0 0) 0 [] ⟨by simp,.inl ⟨rfl,rfl⟩⟩ S l.length n (wv l).toList (by simp[wv]) d Y Zjn ZbC (Yai _)
  refine⟨B,N,m,?_,?_⟩
  .rw [Ycy]at M
   exact TT M a
  .exact (Ext.refl w).trans ((Below.refl _ _).grown R (Yai _) (by simp[Value.ownBlock]))
theorem MB(v:Value)(l:List Nat)(w:World)(h:Words w v l)(g:l.length<=35184372088832) :
  Calls prog 317 #[v] w λe N=>∃X,e=.returned X/\Words N X l/\Ext w N:=by
 obtain⟨A,c,rfl,G,q,C⟩:=h.open_;obtain⟨X,N,m,B,Z⟩:=QM h g;replace m:=Af m;clear C h;go_enter func317,ntmps317;go_wp2_with (at_builtin;refine GV rfl _ _ _ rfl _ _ rfl rfl m.out ?_);go_ret;exact⟨X,rfl,B,Z⟩
theorem OV(m:Nat)(w:World)(v:m<18446744073709551616) :
  Calls prog 237 #[.int .u64 m] w λe N=>∃X,e=.returned X/\Words N X (Aw m)/\Ext w N:=by
 have B:Words (w.alloc (.cells (wv [m%BB,m/BB]) 335)) (.slice (some ⟨w.heap.size,0,none⟩) 2 2) [m%BB,m/BB]:=
  CJ (l:=[m%BB,m/BB]) (c:=2) (Blk.new _ _ _) (λx C=>by
   simp at C;rcases C with rfl | rfl
   .exact YaR _ CS
   .exact Ybu ZcU) ZbR ZbC
 have r:Hid (val [m%BB,m/BB]=m):=by
  show m%BB+BB*(m/BB+BB*0)=m;exact Zjd
 have W:Hid ((w.alloc (.cells (wv [m%BB,m/BB]) 335))=w.alloc (.cells #[.int .u32 ((m:Int)%4294967296),.int .u32 ((m:Int)/4294967296)] 335)):=by
  simp[wv,BF,Hid]
 have j:=Af B;have p:=Af B.small;rw[W.out]at j;clear B;go_enter func237,ntmps237;go_wp2_with fail;refine(Ek _ _ _ j.out).mono ?_;rintro e N ⟨X,rfl,u,Z⟩;go_wp2;go_ret;refine⟨X,rfl,?_,((Ext.refl _).alloc _).trans Z⟩;rw[Bn p.out,r.out]at u;exact u
theorem UL(a:Nat)(t:a<18446744073709551616):(BitVec.ofInt 64 (a:Int)).toNat=a:=by
 rw[Yea,YcD];exact YaV t
theorem Sk{q x:Nat}(m:q<4294967296)(C:x<4294967296):bits .or .u64 (q:Int) ((x:Int)*4294967296)=((q+x*4294967296:Nat):Int):=by
 have A:((x:Int)*4294967296)=((x*4294967296:Nat):Int):=by omega
 have B:q ||| (x*4294967296)=q+x*4294967296:=by
  have:=YcE (i:=32) (b:=q) ZbC x;rw[YdU,show(2:Nat)^32=4294967296 from rfl]at this;rw[Nat.or_comm];omega
 rw[A];show IntKind.u64.wrap ((BitVec.ofInt 64 (q:Int) ||| BitVec.ofInt 64 ((x*4294967296:Nat):Int)).toNat:Int)=_;rw[Yeg,UL q ZbC,UL _ ZbC,IntKind.wrap_u64,B];omega
theorem Uo(v:Value)(l:List Nat)(w:World)(h:Words w v l)(g:l.length<=2) :
  Calls prog 318 #[v] w λe N=>e=.returned (.int .u64 (val l:Nat))/\Ext w N:=by
 obtain⟨A,c,rfl,I,J,F⟩:=h.open_;have a:=Af h.small;clear h;have M:=Af F;clear F;obtain⟨n,U⟩:∃n,n=l.length:=⟨_,rfl⟩;rw[<-U]at I g ⊢;replace U:=Af U;go_enter func318,ntmps318;go_wp2;go_loop [3,7] (λt i=>∃(k q:Nat),k<=n/\i=.int .i64 k/\t=.int .u64 q/\Hid (q=val (l.take k))) (λ_ i=>n-(intOf i).toNat)
 case atStart=>exact⟨0,0,Yay _,rfl,rfl,rfl⟩
 case round=>
  obtain⟨k,q,E,rfl,rfl,m⟩:=hrel;by_cases O:k<n
  .obtain ⟨b, o, rfl, G, L⟩:=M.out Zew
   replace L:=L k Zcl;have z:=Be a.out k;have Q:=Af (Bf l k);generalize F:l.getD k 0=x at *;replace F:=Af F;unfold BB at z;have V:k=0\/k=1:=by omega
   rcases V with rfl | rfl
   .obtain rfl:q=0:=by rw [m.out];rfl
    simp only[Ybf]at L;go_wp2;refine⟨⟨1,x,by omega,rfl,?_,?_⟩,by simp[intOf];omega⟩
    .have B:=Sk (q:=x) (x:=0) z ZbC
     have C:bits .or .u64 0 (x:Int)=bits .or .u64 (x:Int) 0:=by
      show IntKind.u64.wrap ((BitVec.ofInt 64 0 ||| BitVec.ofInt 64 (x:Int)).toNat:Int)=IntKind.u64.wrap ((BitVec.ofInt 64 (x:Int) ||| BitVec.ofInt 64 0).toNat:Int);rw[BitVec.or_comm]
     have K:bits .or .u64 (x:Int) 0=x:=by simpa using B
     rw[C,K]
    .have:=Q.out
     rw[<-m.out]at this;simpa[Hid]using this.symm
   .have S:q<4294967296:=by
     rw[m.out];have B:=Bf l 0;have C:=Be a.out 0;simp[val]at B;rw[B];simpa[BF]using C
    go_wp2;refine⟨⟨2,q+BB*x,by omega,rfl,?_,?_⟩,by simp[intOf];omega⟩
    .rw [Sk S z,BF];congr 1;omega
    .have:=Q.out
     rw[<-m.out,Nat.pow_one]at this;exact this.symm
  .obtain rfl:k=n:=by omega
   go_wp2;go_ret;exact⟨by rw[m.out,Yar Zcl];rfl,Ext.refl _⟩
def FE(a b:Nat):Int:=if a<b then -1 else if b<a then 1 else 0
theorem BP{x y:Nat}(h:x<=y):(Aw x).length<=(Aw y).length:=by
 induction y using Nat.strongRecOn generalizing x with
 |_ y u=>
  by_cases C:x=0
  .subst C;rw[BJ];exact Yay _
  .have M:y≠0:=by omega
   rw[Fl C,Fl M];simp only[Yat];have:=u (y/BB) (Ydx ZbC ZbH) (Nat.div_le_div_right (c:=BB) h);omega
theorem Up(t:BK l)(I:l.length=g.length)(B:n<l.length)(b:∀i,n<i->l.getD i 0=g.getD i 0)(O:l.getD n 0<g.getD n 0):val l<val g:=by
 have key:∀(j:Nat),n+1+j<=l.length->val (l.take (n+1+j))<val (g.take (n+1+j)):=by
  intro j
  induction j with
  |zero=>
   intro _;rw[Ybf,Bf,Bf]
   have q:val (l.take n)<BB^n:=by
    have:=Ei (l:=l.take n) λx C=>t x (Ybh C);rwa [YaO,Yby (Yca B)]at this
   have A:BB^n*(l.getD n 0+1)<=BB^n*g.getD n 0:=Yas _ O;rw[YaG]at A;omega
  |succ j u=>
   intro X;have:=u ZbC;rw[<-YbR,Bf,Bf,b (n+1+j) ZbC];omega
 have:=key (l.length-(n+1)) ZbC;rw[show n+1+(l.length-(n+1))=l.length by omega,Yar (Yai _),Yar ZbC]at this;exact this
theorem A0Q(I:l.length=g.length)(b:∀i,i<l.length->l.getD i 0=g.getD i 0):l=g:=by
 apply List.ext_getElem I;intro i q A;have:=b i q;simpa[q,A]using this
theorem LR(h:(Aw n).length<(Aw b).length):FE n b=-1:=by
 have:n<b:=by
  rcases YaI n b with q | q
  .exact q
  .have:=BP q;omega
 simp[FE,this]
theorem LS(h:(Aw b).length<(Aw n).length):FE n b=1:=by
 have:b<n:=by
  rcases YaI b n with q | q
  .exact q
  .have:=BP q;omega
 have A:¬n<b:=by omega
 simp[FE,this,A]
theorem SV{x y k:Nat}(I:(Aw x).length=(Aw y).length)(B:k<(Aw x).length)(b:∀i,k<i->(Aw x).getD i 0=(Aw y).getD i 0)(O:(Aw x).getD k 0<(Aw y).getD k 0):FE x y=-1:=by
 have:=Up (BG x) I B b O;rw[AK,AK]at this;simp[FE,this]
theorem SW{x y k:Nat}(I:(Aw x).length=(Aw y).length)(B:k<(Aw x).length)(b:∀i,k<i->(Aw x).getD i 0=(Aw y).getD i 0)(O:(Aw y).getD k 0<(Aw x).getD k 0):FE x y=1:=by
 have:=Up (BG y) I.symm ZbC (λi J=>(b i J).symm) O;rw[AK,AK]at this;have A:¬x<y:=by omega
 simp[FE,this,A]
theorem SX(I:(Aw n).length=(Aw b).length)(q:∀i,(Aw n).getD i 0=(Aw b).getD i 0):FE n b=0:=by
 have:=A0Q I λi _=>q i;have A:n=b:=by rw[<-AK n,<-AK b,this]
 simp[FE,A]
theorem Jv(s f:Value)(x y:Nat)(w:World)(t:Words w s (Aw x))(I:Words w f (Aw y)) :
  Calls prog 284 #[s,f] w λe N=>e=.returned (.int .i64 (FE x y))/\Ext w N:=by
 obtain⟨A,c,rfl,J,u,G⟩:=t.open_;obtain⟨B,d,rfl,L,z,M⟩:=I.open_;clear t I;have a:=Af G;have g:=Af M;clear G M;obtain⟨n,U⟩:∃n,n=(Aw x).length:=⟨_,rfl⟩;obtain⟨m,T⟩:∃m,m=(Aw y).length:=⟨_,rfl⟩;rw[<-U]at J ⊢;rw[<-T]at L ⊢;replace U:=Af U;replace T:=Af T;rcases Yci n m with O | heq | hgt
 .have V:((n:Int) != m)=true:=ZiI
  go_enter func284,ntmps284;go_wp2;exact Zii
 .subst heq
  have V:((n:Int) != n)=false:=by simp
  go_enter func284,ntmps284;go_wp2;go_loopw [5] (λi wr=>∃k:Nat,k<=n/\i=.int .i64 ((k:Int)-1)/\Hid (Ext w wr/\∀i,k<=i->(Aw x).getD i 0=(Aw y).getD i 0)) (λi _=>(intOf i+1).toNat)
  case atStart=>exact Zan
  case round=>
   obtain⟨k,F,rfl,S⟩:=hrel;by_cases l:k=0
   .exact Zao
   .obtain ⟨q, rfl⟩:∃q, k=q+1:=⟨k-1, by omega⟩
    obtain⟨b,o,rfl,I,W⟩:=a.out Zcl;replace W:=(S.out.1.cell (p:=⟨b,o+q,none⟩) I).trans (W q Zcl);obtain⟨H,Q,rfl,Z,r⟩:=g.out Zec;replace r:=(S.out.1.cell (p:=⟨H,Q+q,none⟩) Z).trans (r q Zec);generalize j:(Aw x).getD q 0=X at *;generalize p:(Aw y).getD q 0=Y at *;replace j:=Af j;replace p:=Af p;have h:((q+1:Nat):Int)-1=q:=by omega
    rw[h];rcases Yci X Y with O | heq | hgt
    .have v:((X:Int) != Y)=true:=ZiI
     go_wp2;go_quiet (fail);go_wp2;go_quiet (fail);go_wp2;go_ret;exact⟨by rw[SV (k:=q) ZdT Zcl (λi K=>S.out.2 i K) (by rw[j.out,p.out];exact O)];rfl,(S.out.1.drewN _).drewN _⟩
    .subst heq
     have v:((X:Int) != X)=false:=by simp
     go_wp2;go_quiet (fail);go_wp2;refine⟨⟨q,by omega,rfl,S.out.1.drewN _,λi K=>?_⟩,by simp[intOf]⟩;rcases YaI q i with C | C
     .exact S.out.2 i C
     .obtain rfl:i=q:=by omega
      rw[j.out,p.out]
    .have v:((X:Int) != Y)=true:=ZiI
     have P:¬((X:Int)<Y):=by omega
     go_wp2;go_quiet (fail);go_wp2;go_quiet (fail);go_wp2;exact Zha
 .have V:((n:Int) != m)=true:=ZiI
  go_enter func284,ntmps284;go_wp2;exact Zia
def IsInt(w:World)(W K:Value)(z:Int):Prop:=W=.bool (decide (z<0))/\Words w K (Aw z.natAbs)
theorem IsInt.ext(h:IsInt w z u a)(b:Ext w p):IsInt p z u a:=⟨h.1,h.2.ext b⟩
def JL(z:Int)(w:World)(e:Ending)(N:World):Prop:=∃(b:Bool) (A:Option Addr) (n c:Nat),e=.returned (.agg #[.bool b,.slice A n c])/\IsInt N (.bool b) (.slice A n c) z/\Ext w N
theorem IsInt.set{W K:Value}{z:Int}(h:IsInt w W K z){p:Addr}(L:Ty w p.block t)(A:t≠335)(u:Value):IsInt (w.setCell p u) W K z:=⟨h.1,h.2.set L A u⟩
def Ku(neg:Bool)(n:Nat):Int:=if neg then -(n:Int)else n
theorem Ni(neg:Bool)(n:Nat):(Ku neg n).natAbs=n:=by cases neg<;>simp[Ku]
theorem VI(h:n≠0):decide (Ku o n<0)=o:=by cases o<;>simp[Ku]<;>omega
theorem JS(neg:Bool):Ku neg 0=0:=by cases neg<;>rfl
theorem A2i:Ku (!decide (a<0)) a.natAbs=-a:=by
 by_cases h:a<0<;>simp[Ku,h]<;>omega
theorem NL{z:Int}:Ku (decide (z<0)) z.natAbs=z:=by
 by_cases h:z<0<;>simp[Ku,h]<;>omega
theorem IsInt.bool_eq(h:IsInt w (.bool o) z a):o=decide (a<0):=by
 have:=h.1;injection this
theorem IsInt.neg_eq(h:IsInt w (.bool o) z a):Ku (!o) a.natAbs=-a:=by rw[h.bool_eq];exact A2i
theorem Br:(Aw n).length=0↔n=0:=by
 constructor
 .intro h
  have:Aw n=[]:=YaE h;rw[<-AK n,this];rfl
 .rintro rfl;rw[BJ];rfl
theorem Ext.cells{W k:World}(E:Ext W k):(∀b o,b<W.heap.size->k.cell? ⟨b,o,none⟩=W.cell? ⟨b,o,none⟩)/\(∀b o,b<W.heap.size->k.frozen? ⟨b,o,none⟩=W.frozen? ⟨b,o,none⟩):=
 ⟨λb o h=>E.cell (p:=⟨b,o,none⟩) h,λb o h=>E.frozen (p:=⟨b,o,none⟩) h⟩
theorem ED(neg:Bool)(v:Value)(l:List Nat)(w:World)(h:Words w v l) :
  Calls prog 236 #[.bool neg,v] w λe N=>JL (Ku neg (val l)) w e N:=by
 have a:=Af h.small;have H:=Af h;clear h;go_enter func236,ntmps236;go_wp2_with fail;refine(Ek _ _ _ (H.out.ext ((Ext.refl _).alloc _))).mono ?_;rintro e k ⟨X,rfl,u,Z⟩;rw[Bn a.out]at u;obtain⟨A,c,rfl,G,B,C⟩:=u.open_;replace C:=Af C;obtain⟨F,I⟩:=Z.cells;by_cases q:(Aw (val l)).length=0
 .have J:=Af (Br.1 q)
  generalize g:(Aw (val l)).length=n at *;subst q;replace g:=Af g;go_wp2;refine bodyPost_ret (v:=.agg #[.bool false,.slice none 0 0]) Zfk rfl ⟨_,_,_,_,rfl,⟨?_,?_⟩,?_⟩
  .rw [J.out,JS];rfl
  .rw [J.out,JS]
   show Words _ _ (Aw 0);rw[BJ];exact Words.nil _ _ _ ZbC
  .exact ZjH
 .have J:=Af (λe=>q (Br.2 e))
  have E:(((Aw (val l)).length:Int)==0)=false:=ZjI
  go_wp2;refine bodyPost_ret (v:=.agg #[.bool neg,.slice A (Aw (val l)).length c]) Zfk rfl ⟨_,_,_,_,rfl,⟨?_,?_⟩,?_⟩
  .rw [VI J.out]
  .rw [Ni]
   have L:=(Ty.new w #[Value.bool false,Value.slice none 0 0] 109).ext Z;exact(u.set L ZbH _).set (L.set _ _) ZbH _
  .exact ZjH
theorem Um(z:Int)(w:World)(c:0<=z)(v:z<18446744073709551616) :
  Calls prog 237 #[.int .u64 z] w λe N=>∃X,e=.returned X/\Words N X (Aw z.toNat)/\Ext w N:=by
 obtain⟨m,rfl⟩:=YbJ c;rw[YdK];exact OV m w ZbC
theorem Aag(n:Int)(w:World)(c:-9223372036854775808<=n)(q:n<=9223372036854775807) :
  Calls prog 139 #[.int .i64 n] w λe N=>JL n w e N:=by
 by_cases g:n<0
 .have d:decide (n<0)=true:=by simpa using g
  have W:Hid (IntKind.u64.wrap (-(IntKind.u64.wrap n))=-n):=by
   simp only[IntKind.wrap_u64,Hid];omega
  go_enter func139,ntmps139;go_wp2_with fail;rw[W.out];refine(Um _ _ ZbC ZbC).mono ?_;rintro e k ⟨X,rfl,B,Z⟩;go_wp2_with fail;refine(ED _ _ _ _ B).mono ?_;rintro e C ⟨K,o,H,F,rfl,m,T⟩;replace T:=Z.trans T;obtain⟨A,E⟩:=T.cells;replace m:=Af m;replace T:=Af T;clear Z B;go_wp2;refine bodyPost_ret (v:=.agg #[.bool K,.slice o H F]) Zfi rfl ⟨_,_,_,_,rfl,?_,?_⟩
  .exact Zap
  .exact ZjJ
 .have d:decide (n<0)=false:=by simpa using g
  go_enter func139,ntmps139;go_wp2_with fail;refine(Um _ _ ZbC ZbC).mono ?_;rintro e k ⟨X,rfl,B,Z⟩;go_wp2_with fail;refine(ED _ _ _ _ B).mono ?_;rintro e C ⟨K,o,H,F,rfl,m,T⟩;replace T:=Z.trans T;obtain⟨A,E⟩:=T.cells;replace m:=Af m;replace T:=Af T;clear Z B;go_wp2;refine bodyPost_ret (v:=.agg #[.bool K,.slice o H F]) Zfi rfl ⟨_,_,_,_,rfl,?_,?_⟩
  .exact Zaq
  .exact ZjJ
theorem A5m(b:Bool)(A:Option Addr)(n c:Nat)(z:Int)(w:World)(h:IsInt w (.bool b) (.slice A n c) z) :
  Calls prog 235 #[.agg #[.bool b,.slice A n c]] w λe N=>e=.returned (.int .i64 z.sign)/\Ext w N:=by
 obtain⟨q,B⟩:=h;obtain⟨O,l,r,G,v,C⟩:=B.open_;injection r with W o H
 subst W;subst H;clear C B;injection q with q
 by_cases E:z=0
 .subst E
  have J:n=0:=by rw[o];show(Aw 0).length=0;rw[BJ];rfl
  subst J;clear q o;go_enter func235,ntmps235;go_wp2;go_ret;exact⟨rfl,(Ext.refl _).alloc _⟩
 .have J:n≠0:=by
   rw[o];intro e;have:=Br.1 e;omega
  have I:((n:Int)==0)=false:=by simpa using J
  replace o:=Af o
  cases b with
  |true=>
   have F:z<0:=by simpa using q
   clear q;go_enter func235,ntmps235;go_wp2;go_ret;exact⟨by rw[Ybi F];rfl,(Ext.refl _).alloc _⟩
  |false=>
   have F:0<z:=by
    have:¬z<0:=ZjI
    omega
   clear q;go_enter func235,ntmps235;go_wp2;go_ret;exact⟨by rw[Ybr F];rfl,(Ext.refl _).alloc _⟩
theorem A89(b:Bool)(A:Option Addr)(n c:Nat)(z:Int)(w:World)(h:IsInt w (.bool b) (.slice A n c) z)(F:(Aw z.natAbs).length<=4398046511104) :
  Calls prog 292 #[.agg #[.bool b,.slice A n c]] w (JL (-z) w):=by
 replace h:=Af h;replace F:=Af F;go_enter func292,ntmps292;go_wp2
 refine wp_region_v ZbG [[], [(3, 0)], [(4, 1)], [], [(6, 3)], [(7, 4)], [(5, 2), (8, 5)]] [[], [0], [0, 1], [], [3], [3, 4], [0, 1, 2, 3, 4, 5]]
  [λv _=>v=.pointer (some ⟨w.heap.size,0,none⟩),λv _=>v=.bool b,λv _=>v=.bool (!b),λv _=>v=.pointer (some ⟨w.heap.size,1,none⟩),λv _=>v=.slice A n c,λv N=>Words N v (Aw z.natAbs),λv N=>∃b A n c,v=.agg #[.bool b,.slice A n c]/\IsInt N (.bool b) (.slice A n c) (-z)]
  rfl ZbG ZbG ?stab ?steps ?fin
 case stab=>exact .cons (Stab.eq _) (.cons (Stab.eq _) (.cons (Stab.eq _) (.cons (Stab.eq _) (.cons (Stab.eq _) (.cons (λ_ _ _ E h=>h.ext E) (.cons (λ_ _ _ E ⟨b,A,n,c,q,B⟩=>⟨b,A,n,c,q,B.ext E⟩) .nil))))))
 case steps=>
  refine .cons ?s0 (.cons ?s1 (.cons ?s2 (.cons ?s3 (.cons ?s4 (.cons ?s5 (.cons ?s6 .nil))))))
  case s0=>
   intro N i Z C t G p;exact ZhI
  case s1=>
   intro N i Z C t G p;have H:i (.tmp 3)=.pointer (some ⟨w.heap.size,0,none⟩):=C.1 _ rfl;have I:N.cell? ⟨w.heap.size,0,none⟩=some (.bool b):=Z.cellv ZbR;exact AD (by simp[execOp,H,I,go_sem]) rfl
  case s2=>
   intro N i Z C t G p;have O:i (.tmp 4)=.bool b:=C.1 _ rfl;exact AD (by simp[execOp,O,go_sem]) rfl
  case s3=>
   intro N i Z C t G p;exact ZhI
  case s4=>
   intro N i Z C t G p;have a:i (.tmp 6)=.pointer (some ⟨w.heap.size,1,none⟩):=C.1 _ rfl;have I:N.cell? ⟨w.heap.size,1,none⟩=some (.slice A n c):=Z.cellv ZbR;exact AD (by simp[execOp,a,I,go_sem]) rfl
  case s5=>
   intro N i Z C t G p;have x:i (.tmp 7)=.slice A n c:=C.1 _ rfl;refine CF (by simp[execOp,resolve,invoke,x,p,go_sem]) (MB _ _ _ (h.out.2.ext ((((Ext.refl _).alloc _).alloc _).drew.trans Z)) (by have:=F.out;omega)) ?_;rintro e k ⟨T,rfl,J,Q⟩;exact⟨T,rfl,Q,J⟩
  case s6=>
   intro N i Z C t G p;have l:i (.tmp 5)=.bool (!b):=C.1 _ rfl;have s:Words N (i (.tmp 8)) (Aw z.natAbs):=C.2.1 _ rfl;refine CF (by simp[execOp,resolve,invoke,l,p,go_sem]) (ED (!b) _ _ _ s) ?_;rintro e k ⟨j,f,m,S,rfl,u,Q⟩;exact⟨_,rfl,Q,j,f,m,S,rfl,by rw[AK]at u;rw[<-h.out.neg_eq];exact u⟩
 case fin=>
  intro g N Z hF;obtain⟨M,r,V,d,o,Y⟩:=hF 6 _ rfl;simp only[Yat,Ybg,Nat.reduceAdd,Ybn,YaW,Ybl,Ycf,FH,Act.put,Ybe,YbB,YbS,o];clear hF o;replace Y:=Af Y;obtain⟨K,X⟩:=Z.cells;replace Z:=Af Z;go_wp2;refine bodyPost_ret (v:=.agg #[.bool M,.slice r V d]) (by simp[results,Tryz.results292,go_sem,K]) rfl ⟨_,_,_,_,rfl,?_,?_⟩
  .have L:Ty N (w.heap.size+1) 109:=by simpa using (Ty.new (w.alloc (.cells #[Value.bool b, Value.slice A n c] 109)) _ _).ext ((Ext.refl _).drew.trans Z.out)
   exact(Y.out.set L ZbH _).set (L.set _ _) ZbH _
  .exact (((((Ext.refl _).alloc _).alloc _).drew.trans Z.out).set ZbR _).set ZbR _
theorem VJ(x y:Int):Ku (!(decide (x<0)==decide (y<0))) (x.natAbs*y.natAbs)=x*y:=by
 have h:=NL (z:=x);have b:=NL (z:=y);generalize decide (x<0)=p at *;generalize decide (y<0)=q at *;generalize x.natAbs=m at *;generalize y.natAbs=n at *;subst h;subst b;cases p<;>cases q<;>simp[Ku,Ydy,Int.neg_mul,YeR]
theorem A8d(b H:Bool)(A Q:Option Addr)(n c I l:Nat)(x y:Int)(w:World)(h:IsInt w (.bool b) (.slice A n c) x)(J:IsInt w (.bool H) (.slice Q I l) y)(F:(Aw x.natAbs).length<=4398046511104)(V:(Aw y.natAbs).length<=4398046511104) :
  Calls prog 286 #[.agg #[.bool b,.slice A n c],.agg #[.bool H,.slice Q I l]] w (JL (x*y) w):=by
 replace h:=Af h;replace J:=Af J;replace F:=Af F;replace V:=Af V;go_enter func286,ntmps286;go_wp2
 refine wp_region_v ZbG [[], [(5, 0)], [], [(7, 2)], [(6, 1), (8, 3)], [], [(10, 5)], [], [(12, 7)], [(11, 6), (13, 8)], [(9, 4), (14, 9)]] [[], [0], [], [2], [0, 1, 2, 3], [], [5], [], [7], [5, 6, 7, 8], [0, 1, 2, 3, 4, 5, 6, 7, 8, 9]]
  [λv _=>v=.pointer (some ⟨w.heap.size,0,none⟩),λv _=>v=.bool b,λv _=>v=.pointer (some ⟨w.heap.size+1,0,none⟩),λv _=>v=.bool H,λv _=>v=.bool (!(b==H)),λv _=>v=.pointer (some ⟨w.heap.size,1,none⟩),λv _=>v=.slice A n c,λv _=>v=.pointer (some ⟨w.heap.size+1,1,none⟩),λv _=>v=.slice Q I l,λv N=>Words N v (Aw (val (Aw x.natAbs)*val (Aw y.natAbs))),λv N=>∃b A n c,v=.agg #[.bool b,.slice A n c]/\IsInt N (.bool b) (.slice A n c) (x*y)]
  rfl ZbG ZbG ?stab ?steps ?fin
 case stab=>exact ZjK
 case steps=>
  refine .cons ?s0 (.cons ?s1 (.cons ?s2 (.cons ?s3 (.cons ?s4 (.cons ?s5 (.cons ?s6 (.cons ?s7 (.cons ?s8 (.cons ?s9 (.cons ?s10 .nil))))))))))
  case s0=>
   exact Ziw
  case s1=>
   intro N i Z C t G p;exact ZhT
  case s2=>
   exact Zix
  case s3=>
   intro N i Z C t G p;exact ZhP
  case s4=>
   intro N i Z C t G p;have s:i (.tmp 6)=.bool b:=C.1 _ rfl;exact ZhR
  case s5=>
   exact Ziw
  case s6=>
   intro N i Z C t G p;exact ZhQ
  case s7=>
   exact Zix
  case s8=>
   intro N i Z C t G p;exact ZhL
  case s9=>
   intro N i Z C t G p;have xc:i (.tmp 11)=.slice A n c:=C.1 _ rfl;have xe:i (.tmp 13)=.slice Q I l:=C.2.1 _ rfl;refine CF Zfa (Yg _ _ _ _ _ (h.out.2.ext (((((Ext.refl _).alloc _).alloc _).alloc _).drew.trans Z)) (J.out.2.ext (((((Ext.refl _).alloc _).alloc _).alloc _).drew.trans Z)) F.out V.out) ?_;rintro e k ⟨T,rfl,M,S⟩;exact⟨T,rfl,S,M⟩
  case s10=>
   intro N i Z C t G p;have e9:i (.tmp 9)=.bool (!(b==H)):=C.1 _ rfl;have xf:=C.2.1 _ rfl;refine CF Zfe (ED (!(b==H)) _ _ _ xf) ?_;exact ZgX
 case fin=>
  intro g N Z hF;obtain⟨X,R,d,z,o,r⟩:=hF 10 _ rfl;simp only[Yat,Ybg,Nat.reduceAdd,Ybn,YaW,Ybl,Ycf,FH,Act.put,Ybe,YbB,YbS,o];clear hF o;replace r:=Af r;obtain⟨O,f⟩:=Z.cells;replace Z:=Af Z;go_wp2;refine bodyPost_ret (v:=.agg #[.bool X,.slice R d z]) (by simp[results,Tryz.results286,go_sem,O]) rfl ⟨_,_,_,_,rfl,?_,?_⟩
  .exact Zar
  .exact ZjL
theorem VK(h:decide (a<0)=decide (j<0)):Ku (decide (a<0)) (a.natAbs+j.natAbs)=a+j:=by
 by_cases C:a<0<;>by_cases M:j<0<;>simp[C,M]at h<;>simp[Ku,C]<;>omega
theorem A0r(h:¬decide (a<0)=decide (j<0))(i:j.natAbs<=a.natAbs):Ku (decide (a<0)) (a.natAbs-j.natAbs)=a+j:=by
 by_cases C:a<0<;>by_cases M:j<0<;>simp[C,M]at h<;>simp[Ku,C]<;>omega
theorem A0q(h:¬decide (a<0)=decide (j<0))(i:a.natAbs<=j.natAbs):Ku (decide (j<0)) (j.natAbs-a.natAbs)=a+j:=by
 by_cases C:a<0<;>by_cases M:j<0<;>simp[C,M]at h<;>simp[Ku,M]<;>omega
theorem Gd(v:Value)(l:List Nat)(w:World)(h:Words w v l) :
  Calls prog 288 #[v] w λe N=>∃X,e=.returned X/\Words N X (El l)/\Ext w N:=by
 obtain⟨A,c,rfl,G,I,C⟩:=h.open_;have H:=Af h;have a:=Af h.small;clear h;have S:=Af C;clear C;obtain⟨n,g⟩:∃n,n=l.length:=⟨_,rfl⟩;rw[<-g]at G ⊢;have M:=Af g;clear g;go_enter func288,ntmps288;go_wp2;go_loop [3] (λt=>∃k:Nat,k<=n/\t=.int .i64 k/\Hid (El l=El (l.take k))) (λt=>(intOf t).toNat)
 case atStart=>exact ZjG
 case round=>
  exact Zam
theorem IH(neg:Bool)(v:Value)(l:List Nat)(w:World)(h:Words w v l) :
  Calls prog 239 #[.bool neg,v] w λe N=>JL (Ku neg (val l)) w e N:=by
 have a:=Af h.small;have H:=Af h;clear h;go_enter func239,ntmps239;go_wp2_with fail;refine(Gd _ _ _ (H.out.ext ((Ext.refl _).alloc _))).mono ?_;rintro e k ⟨X,rfl,u,Z⟩;rw[Bn a.out]at u;obtain⟨A,c,rfl,G,B,C⟩:=u.open_;replace C:=Af C;obtain⟨F,I⟩:=Z.cells;by_cases q:(Aw (val l)).length=0
 .have J:=Af (Br.1 q)
  generalize g:(Aw (val l)).length=n at *;subst q;replace g:=Af g;have d:Hid (Aw (val l)=[]):=by rw[J.out];exact BJ
  rw[d.out]at u;replace u:=Af u
  cases neg with
  |false=>
   exact Zas
  |true=>
   exact Zas
 .have J:=Af (λe=>q (Br.2 e))
  have E:decide ((0:Int)<((Aw (val l)).length:Int))=true:=ZiI
  have j:0<(Aw (val l)).length:=by omega
  replace u:=Af u;generalize g:(Aw (val l)).length=n at *;replace g:=Af g
  cases neg with
  |false=>
   go_wp2;refine bodyPost_ret (v:=.agg #[.bool false,.slice A n c]) ZdY rfl ⟨_,_,_,_,rfl,⟨?_,?_⟩,?_⟩
   .rw [VI J.out]
   .exact Zat
   .exact ZjH
  |true=>
   go_wp2;refine bodyPost_ret (v:=.agg #[.bool true,.slice A n c]) ZdY rfl ⟨_,_,_,_,rfl,⟨?_,?_⟩,?_⟩
   .rw [VI J.out]
   .exact Zat
   .exact ZjH
theorem A45(v:Value)(l:List Nat)(i:Nat)(w:World)(h:Words w v l) :
  Calls prog 309 #[v,.int .i64 i] w λe N=>e=.returned (.int .u64 (l.getD i 0:Nat))/\w=N:=by
 obtain⟨A,c,rfl,G,B,C⟩:=h.open_;have a:=Be h.small i;by_cases J:i<l.length
 .obtain ⟨b, o, rfl, E, L⟩:=C ZbC
  replace L:=L i J;clear C h;generalize l.getD i 0=x at *;generalize l.length=n at *;unfold BB at a;have d:decide ((i:Int)<n)=true:=by simpa using J
  go_enter func309,ntmps309;go_wp2;go_ret;exact ZjF
 .have q:Hid (l.getD i 0=0):=by simp [show l.length<=i by omega, Hid]
  clear C h a;generalize l.length=n at *;have d:decide ((i:Int)<n)=false:=ZiI
  go_enter func309,ntmps309;go_wp2;go_ret;exact⟨by rw[q.out];rfl,rfl⟩
theorem Iy(v:Value)(l:List Nat)(i x:Nat)(w:World)(h:Words w v l)(C:l.getD i 0=x) :
  Calls prog 309 #[v,.int .i64 i] w λe N=>e=.returned (.int .u64 (x:Nat))/\w=N:=by
 subst C;exact A45 v l i w h
theorem Jc(m:Nat)(w:World)(v:m<18446744073709551616) :
  Calls prog 240 #[.int .u64 m] w λe N=>∃X,e=.returned X/\Words N X (Aw m)/\Ext w N:=by
 have B:Words (w.alloc (.cells (wv [m%BB,m/BB]) 335)) (.slice (some ⟨w.heap.size,0,none⟩) 2 2) [m%BB,m/BB]:=
  CJ (l:=[m%BB,m/BB]) (c:=2) (Blk.new _ _ _) (λx C=>by
   simp at C;rcases C with rfl | rfl
   .exact YaR _ CS
   .exact Ybu ZcU) ZbR ZbC
 have r:Hid (val [m%BB,m/BB]=m):=by
  show m%BB+BB*(m/BB+BB*0)=m;exact Zjd
 have W:Hid ((w.alloc (.cells (wv [m%BB,m/BB]) 335))=w.alloc (.cells #[.int .u32 ((m:Int)%4294967296),.int .u32 ((m:Int)/4294967296)] 335)):=by
  simp[wv,BF,Hid]
 have j:=Af B;have p:=Af B.small;rw[W.out]at j;clear B;go_enter func240,ntmps240;go_wp2_with fail;refine(Gd _ _ _ j.out).mono ?_;rintro e N ⟨X,rfl,u,Z⟩;go_wp2;go_ret;refine⟨X,rfl,?_,((Ext.refl _).alloc _).trans Z⟩;rw[Bn p.out,r.out]at u;exact u
def AddRel(w wr:World)(Z y r:List Nat)(n k S:Nat):Prop:=
 r.length=n/\BK r/\Blk wr w.heap.size 335 (wv r)/\val (r.take k)+BB^k*S=val (Z.take k)+val (y.take k)/\Ext w wr
theorem AddRel.step{Z L r:List Nat}{n k S x y:Nat}(h:AddRel w p Z L r n k S)(B:k<n)(C:Z.getD k 0=x)(M:L.getD k 0=y)(O:x<4294967296)(V:y<4294967296)(G:S<=1){u z:Int}(J:u=((x+S+y)%BB:Nat))(F:z=((x+S+y)/BB:Nat)) :
  ∃(N I:Nat) (b:List Nat),N<=n/\Value.int .i64 ((k:Int)+1)=.int .i64 N/\Value.int .u64 z=.int .u64 I/\I<=1/\Hid (AddRel w (p.setCell ⟨w.heap.size,k,none⟩ (.int .u32 u)) Z L b n N I):=by
 obtain⟨q,A,K,Q,E⟩:=h;obtain⟨W,o⟩:=A3f ZbC C M (by rw[BF];exact O) (by rw[BF];exact V) G Q;refine⟨k+1,(x+S+y)/BB,r.set k ((x+S+y)%BB),B,by simp,by rw[F],o,by simpa using q,Dq A k (YaR _ CS),?_,W,?_⟩
 .rw [J,<-JD]
  exact K.set k _
 .exact Below.setCell E (Yai _) _
theorem AddRel.close{Z y r:List Nat}(h:AddRel w p Z y r n n b)(g:Z.length<n)(v:y.length<n)(hA:BK Z)(B:BK y):val r=val Z+val y:=by
 obtain⟨q,A,K,Q,k⟩:=h;rw[Yar (show Z.length<=n by omega),Yar (show y.length<=n by omega),Yar (show r.length<=n by omega)]at Q;have C:val Z<BB^(n-1):=Yaq (Ei hA) (Ybo CS ZbC);have f:val y<BB^(n-1):=Yaq (Ei B) (Ybo CS ZbC);have e:BB^n=BB*BB^(n-1):=by rw[<-Nat.pow_succ'];exact Zhl
 have o:2*BB^(n-1)<=BB*BB^(n-1):=YaC _ ZbH;rcases YaB b with c | c
 .subst c;omega
 .have:BB^n*1<=BB^n*b:=Yas _ c
  omega
theorem A1h(s a:Value)(J L:List Nat)(w:World)(t:Words w s J)(E:Words w a L)(g:J.length<=4398046511104)(v:L.length<=4398046511104) :
  Calls prog 275 #[s,a] w λe N=>∃X,e=.returned X/\Words N X (Aw (val J+val L))/\Ext w N:=by
 obtain⟨A,c,rfl,G,H,C⟩:=t.open_;obtain⟨B,d,rfl,F,xc,M⟩:=E.open_;have Ha:=Af t;have Hb:=Af E;clear t E C M;have R:=Af Ha.out.small;have o:=Af Hb.out.small;have xe:=R;generalize U:J.length=n at *;generalize T:L.length=m at *;replace U:=Af U;replace T:=Af T;clear xe;rcases YaI n m with xd | xd
 .have j:n<=m:=by omega
  have p:m<=m:=by omega
  have P:=λW=>CB (m+1) ZbC .i64 .i64 W;simp only[Ycw,Yeh]at P;go_enter func275,ntmps275;go_wp2;go_loopw [7,8] (λh i wr=>∃(k S:Nat) (r:List Nat),k<=m+1/\i=.int .i64 k/\h=.int .u64 S/\S<=1/\Hid (AddRel w wr J L r (m+1) k S)) (λ_ i _=>m+1-(intOf i).toNat)
  case atStart=>exact⟨0,0,List.replicate (m+1) 0,Yay _,rfl,rfl,by omega,⟨by simp,Cv _,Blk.new _ _ _,by simp[val],(Ext.refl _).alloc _⟩⟩
  case round=>
   obtain⟨k,S,r,q,rfl,rfl,l,I⟩:=hrel;by_cases O:k<m+1
   .have xb:decide ((k:Int)<(m:Int)+1)=true:=ZiI
    exact Zau
   .obtain rfl:k=m+1:=by omega
    have xb:decide (((m+1:Nat):Int)<(m:Int)+1)=false:=by simp
    have V:=Af (I.out.close (by rw[U.out];omega) (by rw[T.out];omega) R.out o.out)
    have Q:Hid (Words wr (.slice (some ⟨w.heap.size,0,none⟩) (m+1) (m+1)) r):=by
     have:=CJ (c:=m+1) I.out.2.2.1 I.out.2.1 Zfs ZbC;rw[I.out.1]at this;exact this
    go_wp2_with (go_at_call 288;refine(Gd _ _ _ Q.out).mono ?_;rintro e N ⟨X,rfl,Y,Z⟩);go_ret;refine⟨X,rfl,?_,I.out.2.2.2.2.trans Z⟩;rw[Bn I.out.2.1,V.out]at Y;exact Y
 .have j:n<=n:=by omega
  have p:m<=n:=by omega
  have xa:¬n<m:=by omega
  have P:=λW=>CB (n+1) ZbC .i64 .i64 W;simp only[Ycw,Yeh]at P;go_enter func275,ntmps275;go_wp2;go_loopw [7,8] (λh i wr=>∃(k S:Nat) (r:List Nat),k<=n+1/\i=.int .i64 k/\h=.int .u64 S/\S<=1/\Hid (AddRel w wr J L r (n+1) k S)) (λ_ i _=>n+1-(intOf i).toNat)
  case atStart=>exact⟨0,0,List.replicate (n+1) 0,Yay _,rfl,rfl,by omega,⟨by simp,Cv _,Blk.new _ _ _,by simp[val],(Ext.refl _).alloc _⟩⟩
  case round=>
   obtain⟨k,S,r,q,rfl,rfl,l,I⟩:=hrel;by_cases O:k<n+1
   .have xb:decide ((k:Int)<(n:Int)+1)=true:=ZiI
    exact Zau
   .obtain rfl:k=n+1:=by omega
    have xb:decide (((n+1:Nat):Int)<(n:Int)+1)=false:=by simp
    have V:=Af (I.out.close (by rw[U.out];omega) (by rw[T.out];omega) R.out o.out)
    have Q:Hid (Words wr (.slice (some ⟨w.heap.size,0,none⟩) (n+1) (n+1)) r):=by
     have:=CJ (c:=n+1) I.out.2.2.1 I.out.2.1 Zfs ZbC;rw[I.out.1]at this;exact this
    go_wp2_with (go_at_call 288;refine(Gd _ _ _ Q.out).mono ?_;rintro e N ⟨X,rfl,Y,Z⟩);go_ret;refine⟨X,rfl,?_,I.out.2.2.2.2.trans Z⟩;rw[Bn I.out.2.1,V.out]at Y;exact Y
end
