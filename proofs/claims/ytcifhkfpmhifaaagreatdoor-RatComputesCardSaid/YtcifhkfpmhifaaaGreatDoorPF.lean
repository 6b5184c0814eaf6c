/- Part F of the proof: lemmas for the walks of the given functions. No statement of its own. -/
import Derived.Test.YtcifhkfpmhifaaaGreatDoorPE
set_option linter.unusedVariables false
set_option linter.unusedSimpArgs false
set_option linter.deprecated false
set_option maxRecDepth 100000
set_option maxHeartbeats 4000000
namespace Go.Proofs.YtcifhkfpmhifaaaGreatDoor.N
open Go Go.Proofs.YtcifhkfpmhifaaaGreatDoor.SH Go.Proofs.YtcifhkfpmhifaaaGreatDoor.NumA
open Go.Proofs.Tryz renaming call11 → cl11,call13 → cl13,call16 → cl16,call17 → cl17,call19 → cl19,call22 → cl22,call24 → cl24,call26 → cl26,call28 → cl28,call30 → cl30,call31 → cl31,call33 → cl33,call35 → cl35,call37 → cl37,call40 → cl40,call42 → cl42,call45 → cl45,call46 → cl46,call49 → cl49,call50 → cl50,call52 → cl52,isAgg24 → ag24,isAgg26 → ag26,sizeOf24 → sz24,sizeOf26 → sz26,typeInfo26 → ti26,underlying47 → un47,underlying48 → un48,zeroValue24 → zv24,zeroValue26 → zv26
theorem qw_sm {a : Rat} (h : (decide (a.num.natAbs < 4294967296) && decide (a.den < 4294967296)) = true) : qw a ≤ 1:=by
 rw [Bool.and_eq_true,decide_eq_true_eq,decide_eq_true_eq] at h
 have h1 : nw a.num ≤ 1:=nw_le (by rw [Int.pow_succ,Int.pow_zero]; omega)
 have h2 : nw (a.den : Int) ≤ 1:=nw_le (by rw [Int.pow_succ,Int.pow_zero]; omega)
 unfold qw; omega
theorem qw_sm9 {a : Rat} (h : (decide (a.num.natAbs < 4294967296) && decide (a.den < 4294967296)) = true) : qw a < 1000000000:=Nat.lt_of_le_of_lt (qw_sm h) (by decide)
def kq (n d : Int) : Rat:=Rat.divInt n d
theorem k_of (n d : Int) (h : (decide (-9223372036854775808 ≤ n) && decide (n < 9223372036854775808) && decide (-9223372036854775808 ≤ d) && decide (d < 9223372036854775808) && decide (d ≠ 0)) = true) : Says E 49 [vZ n,vZ d] (pQ (kq n d)):=by
 simp only [Bool.and_eq_true,decide_eq_true_eq] at h
 exact lof_says n d h.1.1.1.1 h.1.1.1.2 h.1.1.2 h.1.2 h.2
theorem k_same {a b : Rat} (ha : qw a < 1000000000) (hb : qw b < 1000000000) (h : a = b) : Says E 16 [pQ a,pQ b] (bZ true):=by
 have:=rqsame_says a b ha hb
 rwa [decide_eq_true h] at this
theorem mkE_z (n d : Int) : mkE (zP n) (zP d) = if d = 0 then 5 else 0:=by
 rw [mkE,if_pos ⟨canon_digs _,canon_digs _⟩]
 simp only [sg_of]
theorem mkR_z {n d : Int} (h : d ≠ 0) : mkR (zP n) (zP d) = RQ.of (Rat.divInt n d):=by
 rw [mkR,mkE_z,if_neg h,if_pos rfl]
 simp only [sg_of]
theorem k_zsame (a : Int) (h : nw a < 10000000000000) : Says E 30 [pZ a,pZ a] (bZ true):=by
 have:=rsame_says (decide (a < 0)) (decide (a < 0)) (digs a.natAbs) (digs a.natAbs) h h
 rwa [show decide (decide (a < 0) = decide (a < 0) ∧ digs a.natAbs = digs a.natAbs) = true from decide_eq_true ⟨rfl,rfl⟩] at this
theorem nw_sm {a : Int} (h : a.natAbs < 4294967296) : nw a < 10000000000000:=Nat.lt_of_le_of_lt (nw_le (k:=1) (by rw [Int.pow_succ,Int.pow_zero]; omega)) (by decide)
theorem k_off : Says E 11 [vZ 6,vZ (-4)] (.tup [pQ (kq 6 (-4)),vZ 0]):=by
 have:=qof_says 6 (-4) (by decide) (by decide) (by decide) (by decide)
 rw [mkE_z,mkR_z (by decide)] at this
 exact this
theorem k_make : Says E 13 [pZ 6,pZ (-4)] (.tup [pQ (kq 6 (-4)),vZ 0]):=make_z 6 (-4) (by decide) (Nat.lt_of_le_of_lt (nw_le (k:=1) (by decide)) (by decide)) (Nat.lt_of_le_of_lt (nw_le (k:=1) (by decide)) (by decide))
theorem k_div : Says E 22 [pQ (kq 1 2),pQ (kq (-1) 4)] (.tup [pQ (kq 1 2 / kq (-1) 4),vZ 0]):=qdiv_says _ _ (qw_sm9 (by decide +kernel)) (qw_sm9 (by decide +kernel)) (by decide +kernel)
theorem k_pow : Says E 40 [pQ (kq (-2) 3),vZ (-3)] (.tup [pQ (kq (-2) 3 ^ (-3 : Int)),vZ 0]):=by
 have:=qpow_says (kq (-2) 3) (-3) (Nat.lt_of_le_of_lt (qw_sm (by decide +kernel)) (by decide)) (by decide) (by decide)
 have e : qE (kq (-2) 3) (-3) = 0:=by decide +kernel
 rw [qP,e,if_pos rfl] at this
 exact this
theorem k_com : Says E 42 [pV [kq 1 6,kq (-3) 4,kq 2 1]] (.tup [pVZ [2,-9,24],pZ 12,vZ 0]):=by
 have:=com_says [kq 1 6,kq (-3) 4,kq 2 1] 1 (by simp) (by simp) (fun a ha=>by
  simp only [List.mem_cons,List.not_mem_nil,or_false] at ha
  rcases ha with rfl | rfl | rfl <;> exact qw_sm (by decide +kernel)) (by simp)
 have e1 : comN [kq 1 6,kq (-3) 4,kq 2 1] = [2,-9,24]:=by decide +kernel
 have e2 : comD [kq 1 6,kq (-3) 4,kq 2 1] = 12:=by decide +kernel
 rw [e1,e2] at this
 exact this
theorem k_simp : Says E 46 [pQ (kq 3 10),pQ (kq 2 5)] (.tup [pQ (simpP (kq 3 10) (kq 2 5)),vZ 0]):=simp_pos _ _ 1 (by decide +kernel) (by decide +kernel) (qw_sm (by decide +kernel)) (qw_sm (by decide +kernel)) (by decide)
theorem k_prt : printQ (kq (-3) 4) = [45,51,47,52]:=by
 have h1 : (kq (-3) 4).num = -3:=by decide +kernel
 have h2 : ((kq (-3) 4).den : Int) = 4:=by decide +kernel
 have h3 : Lib.itoa (-3) = [45,51]:=by rw [Lib.itoa,if_pos (by decide)]; show 45 :: Lib.decDigits 3 = _; rw [dec_small (by decide)]; rfl
 have h4 : Lib.itoa 4 = [52]:=by rw [Lib.itoa,if_neg (by decide)]; show Lib.decDigits 4 = _; rw [dec_small (by decide)]; rfl
 rw [printQ,h1,h2,if_neg (by decide),h3,h4]; rfl
theorem k_parse : Says E 50 [pS [45,51,47,52]] (.tup [pQ (kq (-3) 4),vZ 0]):=by
 have:=qparse_says [45,51,47,52] (by decide)
 obtain ⟨e1,e2⟩:=parse_print (a:=kq (-3) 4) (Nat.le_trans (nw_le (k:=1) (by decide +kernel)) (by decide)) (Nat.le_trans (nw_le (k:=1) (by decide +kernel)) (by decide))
 rw [k_prt] at e1 e2
 rw [e1,e2] at this
 exact this
theorem k_is : Says E 19 [pQ (kq 1 2)] (bZ true):=by
 have:=qis_says (r:=RQ.of (kq 1 2)) ⟨wd_digs _,wd_digs _⟩ (by show nw _ < _; exact Nat.lt_of_le_of_lt (nw_le (k:=1) (by decide +kernel)) (by decide)) (by show nw _ < _; exact Nat.lt_of_le_of_lt (nw_le (k:=1) (by decide +kernel)) (by decide))
 rw [RQ.is_of] at this
 exact this
theorem k_sign : Says E 24 [pQ (kq (-1) 2)] (vZ (-1)):=by
 have:=qsign_says (kq (-1) 2) (qw_sm9 (by decide +kernel))
 rwa [show cmpQ (kq (-1) 2) 0 = -1 by decide +kernel] at this
theorem k_cmp : Says E 26 [pQ (kq 1 3),pQ (kq 33 100)] (vZ 1):=by
 have:=qcmp_says (kq 1 3) (kq 33 100) (qw_sm9 (by decide +kernel)) (qw_sm9 (by decide +kernel))
 rwa [show cmpQ (kq 1 3) (kq 33 100) = 1 by decide +kernel] at this
theorem k_floor : Says E 31 [pQ (kq (-7) 2)] (pZ (-4)):=by
 have:=qfloor_says (kq (-7) 2) (qw_sm9 (by decide +kernel))
 rwa [show (kq (-7) 2).floor = -4 by decide +kernel] at this
theorem k_print : Says E 52 [pQ (kq (-3) 4)] (pS [45,51,47,52]):=by
 have:=qprint_says (kq (-3) 4) (Nat.lt_of_le_of_lt (qw_sm (by decide +kernel)) (by decide))
 rwa [k_prt] at this
theorem sane_says  : Says E 10 [] (bZ true):=by
 refine says_of (xs:=[bZ true]) Tryz.func10 rfl Tryz.ntmps10 Tryz.results10 (by simp) fun F hG hX0 hnt hdf P0=>?_
 obtain ⟨L,hX,hN⟩:=pro hnt hX0 hG
 refine exr (aV (L rfl) rfl (zn [] [] trivial trivial (exr (cK hG hX cl11 hN k_off (L rfl) t2 (mV (L rfl) rfl (sw (c_ex rfl (L rfl)) t1 t0 (sw (c_ex rfl (L rfl)) t1 t0 (swb (c_al (k:=1) (n:=4) zv26 (.cons rfl (.cons rfl (.cons rfl (.cons rfl .nil)))) rfl (P0 _ rfl) (L rfl)) t0 t0 ⟨rfl,rfl⟩ (sb (c_sm sz26 (by rfl) pa4 rfl pu4) t2 t1 ?_)))))))))
 refine aV (L rfl) rfl (zn [(1,_),(2,_)] [(1,_)] t2 t1 (exr (cK hG hX cl45 hN (rof_says 6 (by decide) (by decide)) (L rfl) t1 ?_)))
 refine cK hG hX cl45 hN (rof_says (-4) (by decide) (by decide)) (L rfl) t1 ?_
 refine cK hG hX cl13 hN k_make (L rfl) t2 (mV (L rfl) rfl (sw (c_ex rfl (L rfl)) t1 t0 (sw (c_ex rfl (L rfl)) t1 t0 (swb (c_al (k:=3) (n:=4) zv26 (.cons rfl (.cons rfl (.cons rfl (.cons rfl .nil)))) rfl (P0 _ rfl) (L rfl)) t0 t0 ⟨rfl,rfl⟩ (sb (c_sm sz26 (by rfl) pa4 rfl pu4) t2 t1 ?_)))))
 refine aV (L rfl) rfl (zn [(1,_),(2,_),(3,_),(4,_)] [(1,_),(3,_)] t4 t2 (exr (cK hG hX cl49 hN (k_of 1 2 rfl) (L rfl) t2 (cK hG hX cl49 hN (k_of (-1) 4 rfl) (L rfl) t2 (cK hG hX cl22 hN k_div (L rfl) t2 (mV (L rfl) rfl (sw (c_ex rfl (L rfl)) t1 t0 (sw (c_ex rfl (L rfl)) t1 t0 (swb (c_al (k:=5) (n:=4) zv26 (.cons rfl (.cons rfl (.cons rfl (.cons rfl .nil)))) rfl (P0 _ rfl) (L rfl)) t0 t0 ⟨rfl,rfl⟩ (sb (c_sm sz26 (by rfl) pa4 rfl pu4) t2 t1 ?_))))))))))
 refine aV (L rfl) rfl (zn [(1,_),(2,_),(3,_),(4,_),(5,_),(6,_)] [(1,_),(3,_),(5,_)] t6 t3 (exr (cK hG hX cl49 hN (k_of (-2) 3 rfl) (L rfl) t2 (cK hG hX cl40 hN k_pow (L rfl) t2 (mV (L rfl) rfl (sw (c_ex rfl (L rfl)) t1 t0 (sw (c_ex rfl (L rfl)) t1 t0 (swb (c_al (k:=7) (n:=4) zv26 (.cons rfl (.cons rfl (.cons rfl (.cons rfl .nil)))) rfl (P0 _ rfl) (L rfl)) t0 t0 ⟨rfl,rfl⟩ (sb (c_sm sz26 (by rfl) pa4 rfl pu4) t2 t1 ?_)))))))))
 refine aV (L rfl) rfl (zn [(1,_),(2,_),(3,_),(4,_),(5,_),(6,_),(7,_),(8,_)] [(1,_),(3,_),(5,_),(7,_)] t8 t4 (exr (cK hG hX cl49 hN (k_of 1 6 rfl) (L rfl) t2 (cK hG hX cl49 hN (k_of (-3) 4 rfl) (L rfl) t2 (cK hG hX cl49 hN (k_of 2 1 rfl) (L rfl) t2 (sw (c_bI (vs:=[_,_,_]) un47 ti26 rfl rfl (by decide) (by decide) rfl (zs_made (.cons rfl (.cons rfl (.cons rfl (.cons rfl .nil)))) rfl) rfl (.cons rfl pa4 rfl pu4 (.cons rfl pa4 rfl (.skip (.skip (.skip (.skip pu4)))) (.cons rfl pa4 rfl (.skip (.skip (.skip (.skip (.skip (.skip (.skip (.skip pu4)))))))) .nil))) (.cons (.cons (.cons (.cons (.cons (.cons (.cons (.cons (.cons (.cons (.cons (.cons .nil)))))))))))) (L rfl)) t3 t0 ?_))))))
 refine cK hG hX cl42 hN k_com (L rfl) t1 (mV (L rfl) rfl (sw (c_ex rfl (L rfl)) t1 t0 (sw (c_ex rfl (L rfl)) t1 t0 (sw (c_ex rfl (L rfl)) t1 t0 (swb (c_al (k:=10) (n:=2) zv24 (.cons rfl (.cons rfl .nil)) rfl (P0 _ rfl) (L rfl)) t0 t0 ⟨rfl,rfl⟩ (aV (L rfl) rfl (sb (c_sm sz24 (by rfl) pa2 rfl pu2) t2 t1 ?_)))))))
 refine aV (L rfl) rfl (zn [(1,_),(2,_),(3,_),(4,_),(5,_),(6,_),(7,_),(8,_),(9,_),(10,_),(11,_)] [(1,_),(3,_),(5,_),(7,_),(10,_)] t11 t5 (exr (cK hG hX cl49 hN (k_of 3 10 rfl) (L rfl) t2 (cK hG hX cl49 hN (k_of 2 5 rfl) (L rfl) t2 (cK hG hX cl46 hN k_simp (L rfl) t2 (mV (L rfl) rfl (sw (c_ex rfl (L rfl)) t1 t0 (sw (c_ex rfl (L rfl)) t1 t0 (swb (c_al (k:=12) (n:=4) zv26 (.cons rfl (.cons rfl (.cons rfl (.cons rfl .nil)))) rfl (P0 _ rfl) (L rfl)) t0 t0 ⟨rfl,rfl⟩ (sb (c_sm sz26 (by rfl) pa4 rfl pu4) t2 t1 ?_))))))))))
 refine aV (L rfl) rfl (zn [(1,_),(2,_),(3,_),(4,_),(5,_),(6,_),(7,_),(8,_),(9,_),(10,_),(11,_),(12,_),(13,_)] [(1,_),(3,_),(5,_),(7,_),(10,_),(12,_)] t13 t6 (exr (cK hG hX cl50 hN k_parse (L rfl) t1 (mV (L rfl) rfl (sw (c_ex rfl (L rfl)) t1 t0 (sw (c_ex rfl (L rfl)) t1 t0 (swb (c_al (k:=14) (n:=4) zv26 (.cons rfl (.cons rfl (.cons rfl (.cons rfl .nil)))) rfl (P0 _ rfl) (L rfl)) t0 t0 ⟨rfl,rfl⟩ (sb (c_sm sz26 (by rfl) pa4 rfl pu4) t2 t1 ?_))))))))
 refine aV (L rfl) rfl (zn [(1,_),(2,_),(3,_),(4,_),(5,_),(6,_),(7,_),(8,_),(9,_),(10,_),(11,_),(12,_),(13,_),(14,_),(15,_)] [(1,_),(3,_),(5,_),(7,_),(10,_),(12,_),(14,_)] t15 t7 (ex_seq (exr (mV (L rfl) rfl (sw (c_n (L rfl)) t2 t0 (mV (L rfl) rfl (gV (g:=60) rfl rfl (L rfl) rfl rfl (swg (g:=60) rfl rfl (c_n (L rfl)) rfl t2 t0 (sw (c_pf rfl (L rfl)) t2 t0 (mV (L rfl) rfl (gV (g:=64) rfl rfl (L rfl) rfl rfl ?_)))))))))))
 refine swg (g:=64) rfl rfl (c_n (L rfl)) rfl t2 t0 (sw (c_pf rfl (L rfl)) t2 t0 (mV (L rfl) rfl (gV (g:=68) rfl rfl (L rfl) rfl rfl (swg (g:=68) rfl rfl (c_n (L rfl)) rfl t2 t0 (sw (c_pf rfl (L rfl)) t2 t0 (mV (L rfl) rfl (gV (g:=72) rfl rfl (L rfl) rfl rfl (swg (g:=72) rfl rfl (c_n (L rfl)) rfl t2 t0 (sw (c_pf rfl (L rfl)) t2 t0 (mV (L rfl) rfl (gV (g:=76) rfl rfl (L rfl) rfl rfl ?_)))))))))))
 refine swg (g:=76) rfl rfl (c_n (L rfl)) rfl t2 t0 (sw (c_pf rfl (L rfl)) t2 t0 (mV (L rfl) rfl (gV (g:=80) rfl rfl (L rfl) rfl rfl (swg (g:=80) rfl rfl (c_n (L rfl)) rfl t2 t0 (sw (c_pf rfl (L rfl)) t2 t0 (mV (L rfl) rfl (gV (g:=84) rfl rfl (L rfl) rfl rfl (swg (g:=84) rfl rfl (c_ln un48 (L rfl)) rfl t1 t0 (swg (g:=84) rfl rfl (c_n (L rfl)) rfl t2 t0 (sw (c_pf rfl (L rfl)) t2 t0 (zn [(1,_),(3,_),(5,_),(7,_),(9,_),(10,_),(12,_),(14,_),(88,_)] [(1,_),(3,_),(5,_),(7,_),(10,_),(12,_),(14,_)] t9 t7 ?_)))))))))))
 refine ex_if rfl (fun hc=>?_) (fun hc=>?_)
 ·cases hc
 ·refine ex_skip (show Exec _ _ _ _ _ from ?_)
  refine exd (by rfl) ?_
  refine lp4 ag26 sz26 (L rfl) rfl rfl (cK hG hX cl49 hN (k_of (-3) 2 rfl) (L rfl) t2 (cK hG hX cl16 hN (k_same (a:=kq 6 (-4)) (b:=kq (-3) 2) (qw_sm9 (by decide +kernel)) (qw_sm9 (by decide +kernel)) (by decide +kernel)) (L rfl) t2 ?_))
  refine mV (L rfl) rfl (swg (g:=92) rfl rfl (c_lp ag26 sz26 (by rfl) (by exact al4) rfl (L rfl)) rfl t1 t1 ?_)
  refine swg (g:=92) rfl rfl (c_lp ag26 sz26 (by rfl) (by exact al4) rfl (L rfl)) rfl t1 t1 ?_
  refine swg (g:=92) rfl rfl (c_c hG hX cl16 rfl hN (k_same (a:=kq 6 (-4)) (b:=kq 6 (-4)) (qw_sm9 (by decide +kernel)) (qw_sm9 (by decide +kernel)) (by decide +kernel)) (L rfl)) rfl t2 t0 ?_
  refine sw (c_pt rfl (L rfl)) t2 t0 (mV (L rfl) rfl (swg (g:=97) rfl rfl (c_lp ag26 sz26 (by rfl) (by exact al4) rfl (L rfl)) rfl t1 t1 ?_))
  refine swg (g:=97) rfl rfl (c_c hG hX cl49 rfl hN (k_of (-2) 1 rfl) (L rfl)) rfl t2 t0 (swg (g:=97) rfl rfl (c_c hG hX cl16 rfl hN (k_same (a:=kq 1 2 / kq (-1) 4) (b:=kq (-2) 1) (qw_sm9 (by decide +kernel)) (qw_sm9 (by decide +kernel)) (by decide +kernel)) (L rfl)) rfl t2 t0 ?_)
  refine sw (c_pt rfl (L rfl)) t2 t0 (mV (L rfl) rfl (swg (g:=102) rfl rfl (c_lp ag26 sz26 (by rfl) (by exact al4) rfl (L rfl)) rfl t1 t1 ?_))
  refine swg (g:=102) rfl rfl (c_c hG hX cl49 rfl hN (k_of (-27) 8 rfl) (L rfl)) rfl t2 t0 (swg (g:=102) rfl rfl (c_c hG hX cl16 rfl hN (k_same (a:=kq (-2) 3 ^ (-3 : Int)) (b:=kq (-27) 8) (qw_sm9 (by decide +kernel)) (qw_sm9 (by decide +kernel)) (by decide +kernel)) (L rfl)) rfl t2 t0 ?_)
  refine sw (c_pt rfl (L rfl)) t2 t0 (mV (L rfl) rfl (gV (g:=107) rfl rfl (L rfl) rfl rfl (swg (g:=107) rfl rfl (core_indexAddrJ un48 sz24 (by decide) (by decide) (by simp) (by decide) (L rfl)) rfl t2 t0 ?_)))
  refine swg (g:=107) rfl rfl (c_la ag24 sz24 rfl rfl (L rfl)) rfl t1 t0 (swg (g:=107) rfl rfl (c_c hG hX cl45 rfl hN (rof_says (-9) (by decide) (by decide)) (L rfl)) rfl t1 t0 ?_)
  refine swg (g:=107) rfl rfl (c_c hG hX cl30 rfl hN (k_zsame (-9) (nw_sm (by decide))) (L rfl)) rfl t2 t0 ?_
  refine sw (c_pt rfl (L rfl)) t2 t0 (mV (L rfl) rfl (swg (g:=114) rfl rfl (c_lp ag24 sz24 (by rfl) (by exact al2) rfl (L rfl)) rfl t1 t1 ?_))
  refine swg (g:=114) rfl rfl (c_c hG hX cl45 rfl hN (rof_says 12 (by decide) (by decide)) (L rfl)) rfl t1 t0 ?_
  refine swg (g:=114) rfl rfl (c_c hG hX cl30 rfl hN (k_zsame 12 (nw_sm (by decide))) (L rfl)) rfl t2 t0 ?_
  refine sw (c_pt rfl (L rfl)) t2 t0 (mV (L rfl) rfl (swg (g:=119) rfl rfl (c_lp ag26 sz26 (by rfl) (by exact al4) rfl (L rfl)) rfl t1 t1 ?_))
  refine swg (g:=119) rfl rfl (c_c hG hX cl49 rfl hN (k_of 1 3 rfl) (L rfl)) rfl t2 t0 (swg (g:=119) rfl rfl (c_c hG hX cl16 rfl hN (k_same (a:=simpP (kq 3 10) (kq 2 5)) (b:=kq 1 3) (qw_sm9 (by decide +kernel)) (qw_sm9 (by decide +kernel)) (by decide +kernel)) (L rfl)) rfl t2 t0 ?_)
  refine sw (c_pt rfl (L rfl)) t2 t0 (mV (L rfl) rfl (swg (g:=124) rfl rfl (c_lp ag26 sz26 (by rfl) (by exact al4) rfl (L rfl)) rfl t1 t1 ?_))
  refine swg (g:=124) rfl rfl (c_c hG hX cl49 rfl hN (k_of (-3) 4 rfl) (L rfl)) rfl t2 t0 (swg (g:=124) rfl rfl (c_c hG hX cl16 rfl hN (k_same (a:=kq (-3) 4) (b:=kq (-3) 4) (qw_sm9 (by decide +kernel)) (qw_sm9 (by decide +kernel)) (by decide +kernel)) (L rfl)) rfl t2 t0 ?_)
  refine sw (c_pt rfl (L rfl)) t2 t0 (aV (L rfl) rfl ?_)
  refine seq_nil ⟨aoks [⟨[1],[1],[89],[]⟩,⟨[],[],[90],[]⟩,⟨[89,90],[],[91],[]⟩,⟨[91],[],[92],[]⟩,⟨[92,3],[3],[93],[]⟩,⟨[92,1],[1],[94],[]⟩,⟨[92,93,94],[],[95],[]⟩,⟨[92,95],[],[96],[]⟩,⟨[96],[],[97],[]⟩,⟨[97,5],[5],[98],[]⟩,⟨[97],[],[99],[]⟩,⟨[97,98,99],[],[100],[]⟩,⟨[97,100],[],[101],[]⟩,⟨[101],[],[102],[]⟩,⟨[102,7],[7],[103],[]⟩,⟨[102],[],[104],[]⟩,⟨[102,103,104],[],[105],[]⟩,⟨[102,105],[],[106],[]⟩,⟨[106],[],[107],[]⟩,⟨[107,9],[],[108],[]⟩,⟨[107,108],[],[109],[]⟩,⟨[107,109],[],[110],[]⟩,⟨[107],[],[111],[]⟩,⟨[107,110,111],[],[112],[]⟩,⟨[107,112],[],[113],[]⟩,⟨[113],[],[114],[]⟩,⟨[114,10],[10],[115],[]⟩,⟨[114],[],[116],[]⟩,⟨[114,115,116],[],[117],[]⟩,⟨[114,117],[],[118],[]⟩,⟨[118],[],[119],[]⟩,⟨[119,12],[12],[120],[]⟩,⟨[119],[],[121],[]⟩,⟨[119,120,121],[],[122],[]⟩,⟨[119,122],[],[123],[]⟩,⟨[123],[],[124],[]⟩,⟨[124,14],[14],[125],[]⟩,⟨[124],[],[126],[]⟩,⟨[124,125,126],[],[127],[]⟩,⟨[124,127],[],[128],[]⟩,⟨[128],[],[16],[]⟩] (by rfl) (by rfl) (by decide),[(16,_)],[],t1,trivial,?_⟩
  refine exr (cK hG hX cl49 hN (k_of 1 6 rfl) (L rfl) t2 (cK hG hX cl49 hN (k_of 1 10 rfl) (L rfl) t2 (cK hG hX cl33 hN (qadd_says (kq 1 6) (kq 1 10) (qw_sm9 (by decide +kernel)) (qw_sm9 (by decide +kernel))) (L rfl) t2 ?_)))
  refine cK hG hX cl49 hN (k_of 4 15 rfl) (L rfl) t2 (cK hG hX cl16 hN (k_same (a:=kq 1 6 + kq 1 10) (b:=kq 4 15) (qw_sm9 (by decide +kernel)) (qw_sm9 (by decide +kernel)) (by decide +kernel)) (L rfl) t2 ?_)
  refine mV (L rfl) rfl (swg (g:=134) rfl rfl (c_c hG hX cl49 rfl hN (k_of 1 2 rfl) (L rfl)) rfl t2 t0 (swg (g:=134) rfl rfl (c_c hG hX cl49 rfl hN (k_of 1 3 rfl) (L rfl)) rfl t2 t0 (swg (g:=134) rfl rfl (c_c hG hX cl35 rfl hN (qsub_says (kq 1 2) (kq 1 3) (qw_sm9 (by decide +kernel)) (qw_sm9 (by decide +kernel))) (L rfl)) rfl t2 t0 ?_)))
  refine swg (g:=134) rfl rfl (c_c hG hX cl49 rfl hN (k_of 1 6 rfl) (L rfl)) rfl t2 t0 (swg (g:=134) rfl rfl (c_c hG hX cl16 rfl hN (k_same (a:=kq 1 2 - kq 1 3) (b:=kq 1 6) (qw_sm9 (by decide +kernel)) (qw_sm9 (by decide +kernel)) (by decide +kernel)) (L rfl)) rfl t2 t0 ?_)
  refine sw (c_pt rfl (L rfl)) t2 t0 (mV (L rfl) rfl (swg (g:=141) rfl rfl (c_c hG hX cl49 rfl hN (k_of (-2) 3 rfl) (L rfl)) rfl t2 t0 (swg (g:=141) rfl rfl (c_c hG hX cl49 rfl hN (k_of 9 4 rfl) (L rfl)) rfl t2 t0 (swg (g:=141) rfl rfl (c_c hG hX cl37 rfl hN (qmul_says (kq (-2) 3) (kq 9 4) (qw_sm9 (by decide +kernel)) (qw_sm9 (by decide +kernel))) (L rfl)) rfl t2 t0 ?_))))
  refine swg (g:=141) rfl rfl (c_c hG hX cl49 rfl hN (k_of (-3) 2 rfl) (L rfl)) rfl t2 t0 (swg (g:=141) rfl rfl (c_c hG hX cl16 rfl hN (k_same (a:=kq (-2) 3 * kq 9 4) (b:=kq (-3) 2) (qw_sm9 (by decide +kernel)) (qw_sm9 (by decide +kernel)) (by decide +kernel)) (L rfl)) rfl t2 t0 ?_)
  refine sw (c_pt rfl (L rfl)) t2 t0 (mV (L rfl) rfl (swg (g:=148) rfl rfl (c_c hG hX cl49 rfl hN (k_of 1 2 rfl) (L rfl)) rfl t2 t0 (swg (g:=148) rfl rfl (c_c hG hX cl28 rfl hN (qneg_says (kq 1 2) (qw_sm9 (by decide +kernel))) (L rfl)) rfl t1 t0 ?_)))
  refine swg (g:=148) rfl rfl (c_c hG hX cl49 rfl hN (k_of (-1) 2 rfl) (L rfl)) rfl t2 t0 (swg (g:=148) rfl rfl (c_c hG hX cl16 rfl hN (k_same (a:=-kq 1 2) (b:=kq (-1) 2) (qw_sm9 (by decide +kernel)) (qw_sm9 (by decide +kernel)) (by decide +kernel)) (L rfl)) rfl t2 t0 ?_)
  refine sw (c_pt rfl (L rfl)) t2 t0 (aV (L rfl) rfl (zn [(16,_),(17,_)] [] t2 trivial (exr (mV (L rfl) rfl (mV (L rfl) rfl (gV (g:=155) rfl rfl (L rfl) rfl rfl (sw (c_pt rfl (L rfl)) t2 t0 (mV (L rfl) rfl (swg (g:=158) rfl rfl (c_c hG hX cl49 rfl hN (k_of 1 2 rfl) (L rfl)) rfl t2 t0 (swg (g:=158) rfl rfl (c_c hG hX cl19 rfl hN k_is (L rfl)) rfl t1 t0 (sw (c_pt rfl (L rfl)) t2 t0 ?_)))))))))))
  refine mV (L rfl) rfl (swg (g:=162) rfl rfl (c_c hG hX cl49 rfl hN (k_of (-1) 2 rfl) (L rfl)) rfl t2 t0 (swg (g:=162) rfl rfl (c_c hG hX cl24 rfl hN k_sign (L rfl)) rfl t1 t0 (swg (g:=162) rfl rfl (c_e (L rfl)) rfl t2 t0 (sw (c_pt rfl (L rfl)) t2 t0 (mV (L rfl) rfl (swg (g:=167) rfl rfl (c_c hG hX cl49 rfl hN (k_of 1 3 rfl) (L rfl)) rfl t2 t0 (swg (g:=167) rfl rfl (c_c hG hX cl49 rfl hN (k_of 33 100 rfl) (L rfl)) rfl t2 t0 (swg (g:=167) rfl rfl (c_c hG hX cl26 rfl hN k_cmp (L rfl)) rfl t2 t0 (swg (g:=167) rfl rfl (c_e (L rfl)) rfl t2 t0 (sw (c_pt rfl (L rfl)) t2 t0 (mV (L rfl) rfl ?_)))))))))))
  refine swg (g:=173) rfl rfl (c_c hG hX cl49 rfl hN (k_of (-7) 2 rfl) (L rfl)) rfl t2 t0 (swg (g:=173) rfl rfl (c_c hG hX cl31 rfl hN k_floor (L rfl)) rfl t1 t0 (swg (g:=173) rfl rfl (c_c hG hX cl45 rfl hN (rof_says (-4) (by decide) (by decide)) (L rfl)) rfl t1 t0 ?_))
  refine swg (g:=173) rfl rfl (c_c hG hX cl30 rfl hN (k_zsame (-4) (nw_sm (by decide))) (L rfl)) rfl t2 t0 ?_
  refine sw (c_pt rfl (L rfl)) t2 t0 (mV (L rfl) rfl (swg (g:=179) rfl rfl (c_c hG hX cl45 rfl hN (rof_says 5 (by decide) (by decide)) (L rfl)) rfl t1 t0 ?_))
  refine swg (g:=179) rfl rfl (c_c hG hX cl17 rfl hN (qwhole_says 5) (L rfl)) rfl t1 t0 (swg (g:=179) rfl rfl (c_c hG hX cl49 rfl hN (k_of 5 1 rfl) (L rfl)) rfl t2 t0 (swg (g:=179) rfl rfl (c_c hG hX cl16 rfl hN (k_same (a:=((5 : Int) : Rat)) (b:=kq 5 1) (qw_sm9 (by decide +kernel)) (qw_sm9 (by decide +kernel)) (by decide +kernel)) (L rfl)) rfl t2 t0 ?_))
  refine sw (c_pt rfl (L rfl)) t2 t0 (mV (L rfl) rfl (swg (g:=185) rfl rfl (c_c hG hX cl49 rfl hN (k_of (-3) 4 rfl) (L rfl)) rfl t2 t0 (swg (g:=185) rfl rfl (c_c hG hX cl52 rfl hN k_print (L rfl)) rfl t1 t0 (swg (g:=185) rfl rfl (c_se (L rfl)) rfl t2 t0 (sw (c_pt rfl (L rfl)) t2 t0 (aV (L rfl) rfl (zn [(0,_)] [] t1 trivial (ex_ret ?_))))))))
  refine ⟨.inr rfl,ResVs.cast (.cons (.tmp rfl) .nil) ?_⟩
  rfl
end Go.Proofs.YtcifhkfpmhifaaaGreatDoor.N
set_option maxRecDepth 100000
set_option maxHeartbeats 4000000
namespace Go.Proofs.YtcifhkfpmhifaaaGreatDoor.N
open Go Go.Proofs.YtcifhkfpmhifaaaGreatDoor.SH Go.Proofs.YtcifhkfpmhifaaaGreatDoor.NumA
open Go.Proofs.Tryz renaming call10 → cl10,call11 → cl11,call12 → cl12,call13 → cl13,call14 → cl14,call15 → cl15,call16 → cl16,call17 → cl17,call18 → cl18,call19 → cl19,call20 → cl20,call24 → cl24,call25 → cl25,call47 → cl47,call68 → cl68,call71 → cl71,isAgg22 → ag22,isAgg24 → ag24,isAgg26 → ag26,sizeOf22 → sz22,sizeOf24 → sz24,sizeOf26 → sz26,underlying22 → un22,underlying24 → un24,underlying26 → un26,underlying4 → un4,zeroValue26 → zv26
def dE (b : Rat) : Int:=if b = 0 then 5 else 0
def dV (a b : Rat) : RQ:=if b = 0 then R0 else RQ.of (a / b)
theorem qdiv0 (a : Rat) : Says E 22 [pQ a,pQ 0] (.tup [.agg (cR R0),vZ 5]):=by
 refine says_of (xs:=[.agg (cR R0),vZ 5]) Tryz.func22 rfl Tryz.ntmps22 Tryz.results22 (by simp) fun F hG hX0 hnt hdf P0=>?_
 obtain ⟨L,hX,hN⟩:=pro hnt hX0 hG
 refine exr (swb (c_bx (k:=2) (n:=4) pa4 rfl rfl (P0 _ rfl) (L rfl)) t1 t0 ⟨rfl,rfl⟩ (swb (c_bx (k:=3) (n:=4) pa4 rfl rfl (P0 _ rfl) (L rfl)) t1 t0 ⟨rfl,rfl⟩ (swb (c_al (k:=4) (n:=4) zv26 (.cons rfl (.cons rfl (.cons rfl (.cons rfl .nil)))) rfl (P0 _ rfl) (L rfl)) t0 t0 ⟨rfl,rfl⟩ (aV (L rfl) rfl (zn [(2,_),(3,_),(4,_)] [(2,_),(3,_),(4,_)] t3 t3 (ex_seq (exr (lp4 ag26 sz26 (L rfl) rfl rfl (cK hG hX cl24 hN (qsign_says 0 (by rw [qw_zero]; decide)) (L rfl) t1 ?_)))))))))
 refine sw (c_e (L rfl)) t2 t0 (zn [(2,_),(3,_),(4,_),(8,_)] [(2,_),(3,_),(4,_)] t4 t3 ?_)
 refine ex_if rfl (fun hc=>?_) (fun hc=>?_)
 ·refine exr (sw (c_pc (c_bp (vs:=[]) un26 zv26 (.cons rfl (.cons rfl (.cons rfl (.cons rfl .nil)))) ((Places.cons sz24 (Places.cons sz24 Places.nil))).to rfl .nil (.cons (.cons (.cons (.cons .nil)))) (L rfl)) (.agg (.cons .same (.cons .nil (.cons .same (.cons .nil .nil)))))) t0 t0 (sb (c_sm sz26 (by rfl) pa4 rfl pu4) t2 t1 ?_))
  refine aV (L rfl) rfl (zn [(4,_),(5,_)] [(4,_)] t2 t1 (ex_ret ?_))
  refine ⟨.inr rfl,ResVs.cast (.cons (.agg rfl rfl rfl ag26 sz26 (.cons (.cons (.cons (.cons .nil))))) (.cons (.tmp rfl) .nil)) ?_⟩
  rfl
 ·exact absurd (cmpQ0.2 rfl) (df hc)
theorem rqdiv0 (a : Rat) : Says E 23 [pQ a,pQ 0] (.tup [.agg (cR R0),vZ 5]):=by
 refine says_of (xs:=[.agg (cR R0),vZ 5]) Tryz.func23 rfl Tryz.ntmps23 Tryz.results23 (by simp) fun F hG hX0 hnt hdf P0=>?_
 obtain ⟨L,hX,hN⟩:=pro hnt hX0 hG
 refine exr (swb (c_bx (k:=2) (n:=4) pa4 rfl rfl (P0 _ rfl) (L rfl)) t1 t0 ⟨rfl,rfl⟩ (swb (c_bx (k:=3) (n:=4) pa4 rfl rfl (P0 _ rfl) (L rfl)) t1 t0 ⟨rfl,rfl⟩ (swb (c_al (k:=4) (n:=4) zv26 (.cons rfl (.cons rfl (.cons rfl (.cons rfl .nil)))) rfl (P0 _ rfl) (L rfl)) t0 t0 ⟨rfl,rfl⟩ (aV (L rfl) rfl (zn [(2,_),(3,_),(4,_)] [(2,_),(3,_),(4,_)] t3 t3 (ex_seq (exr (lp4 ag26 sz26 (L rfl) rfl rfl (cK hG hX cl25 hN (rqsign_says 0 (by rw [qw_zero]; decide)) (L rfl) t1 ?_)))))))))
 refine sw (c_e (L rfl)) t2 t0 (zn [(2,_),(3,_),(4,_),(8,_)] [(2,_),(3,_),(4,_)] t4 t3 ?_)
 refine ex_if rfl (fun hc=>?_) (fun hc=>?_)
 ·refine exr (sw (c_pc (c_bp (vs:=[]) un26 zv26 (.cons rfl (.cons rfl (.cons rfl (.cons rfl .nil)))) ((Places.cons sz24 (Places.cons sz24 Places.nil))).to rfl .nil (.cons (.cons (.cons (.cons .nil)))) (L rfl)) (.agg (.cons .same (.cons .nil (.cons .same (.cons .nil .nil)))))) t0 t0 (sb (c_sm sz26 (by rfl) pa4 rfl pu4) t2 t1 ?_))
  refine aV (L rfl) rfl (zn [(4,_),(5,_)] [(4,_)] t2 t1 (ex_ret ?_))
  refine ⟨.inr rfl,ResVs.cast (.cons (.agg rfl rfl rfl ag26 sz26 (.cons (.cons (.cons (.cons .nil))))) (.cons (.tmp rfl) .nil)) ?_⟩
  rfl
 ·exact absurd (cmpQ0.2 rfl) (df hc)
theorem qdivA (a b : Rat) (ha : qw a < 1000000000) (hb : qw b < 1000000000) : Says E 22 [pQ a,pQ b] (.tup [.agg (cR (dV a b)),vZ (dE b)]):=by
 by_cases h : b = 0
 ·subst h; exact qdiv0 a
 ·rw [dV,dE,if_neg h,if_neg h]; exact qdiv_says a b ha hb h
theorem rqdivA (a b : Rat) (ha : qw a < 1000000000) (hb : qw b < 1000000000) : Says E 23 [pQ a,pQ b] (.tup [.agg (cR (dV a b)),vZ (dE b)]):=by
 by_cases h : b = 0
 ·subst h; exact rqdiv0 a
 ·rw [dV,dE,if_neg h,if_neg h]; exact rqdiv_says a b ha hb h
theorem rcmpZ (a b : Int) (ha : nw a < 999999999999) (hb : nw b < 999999999999) : Says E 47 [pZ a,pZ b] (vZ (cmpI a b)):=by
 have:=rcmpI_says (decide (a < 0)) (decide (b < 0)) (digs a.natAbs) (digs b.natAbs) (by unfold nw at ha; omega) (by unfold nw at hb; omega) (wd_digs _) (wd_digs _)
 rwa [if_pos ⟨canon_digs a,canon_digs b⟩,sg_digs,sg_digs] at this
theorem rqcmp_says (a b : Rat) (ha : qw a < 1000000000) (hb : qw b < 1000000000) : Says E 27 [pQ a,pQ b] (vZ (cmpQ a b)):=by
 refine says_of (xs:=[vZ (cmpQ a b)]) Tryz.func27 rfl Tryz.ntmps27 Tryz.results27 (by simp) fun F hG hX0 hnt hdf P0=>?_
 obtain ⟨L,hX,hN⟩:=pro hnt hX0 hG
 have h1:=nw_num_le a
 have h2:=nw_num_le b
 have h3:=nw_den_le a
 have h4:=nw_den_le b
 have h5:=nw_mul a.num b.den
 have h6:=nw_mul b.num a.den
 refine exr (swb (c_bx (k:=2) (n:=4) pa4 rfl rfl (P0 _ rfl) (L rfl)) t1 t0 ⟨rfl,rfl⟩ (swb (c_bx (k:=3) (n:=4) pa4 rfl rfl (P0 _ rfl) (L rfl)) t1 t0 ⟨rfl,rfl⟩ (aV (L rfl) rfl (zn [(2,_),(3,_)] [(2,_),(3,_)] t2 t2 (ex_seq ?_)))))
 refine exm (sl:=[(12,vb (decide ((a.den : Int) = 1 ∧ (b.den : Int) = 1)))]) (sl0:=[(2,_),(3,_)]) (hb:=[]) (hb0:=[(2,_),(3,_)]) t2 t2 ?_ ?_
 ·by_cases hd : (a.den : Int) = 1
  ·refine sw (c_fa un26 rfl sz24 (by decide) (by exact rfl) (L rfl)) t1 t1 ?_
   refine lp2 ag24 sz24 (L rfl) rfl rfl (cK hG hX cl71 hN (risOneZ a.den (by omega)) (L rfl) t1 ?_)
   refine mV (L rfl) rfl (swg (g:=8) rfl (by simpa using hd) (c_fa un26 rfl sz24 (by decide) (by exact rfl) (L rfl)) rfl t1 t1 ?_)
   refine swg (g:=8) rfl (by simpa using hd) (c_lp ag24 sz24 (by rfl) (by exact al2) rfl (L rfl)) rfl t1 t1 ?_
   refine swg (g:=8) rfl (by simpa using hd) (c_c hG hX cl71 rfl hN (risOneZ b.den (by omega)) (L rfl)) rfl t1 t0 ?_
   refine sw (c_pt (by simpa using hd) (L rfl)) t2 t0 ?_
   exact seq_nil ⟨⟨ob rfl (by simp only [hd,true_and]),rfl,rfl,trivial⟩,t2⟩
  ·refine sw (c_fa un26 rfl sz24 (by decide) (by exact rfl) (L rfl)) t1 t1 ?_
   refine lp2 ag24 sz24 (L rfl) rfl rfl (cK hG hX cl71 hN (risOneZ a.den (by omega)) (L rfl) t1 ?_)
   refine mV (L rfl) rfl (swn (g:=8) rfl (by simpa using hd) (L rfl) rfl ?_)
   refine swn (g:=8) rfl (by simpa using hd) (L rfl) rfl ?_
   refine swn (g:=8) rfl (by simpa using hd) (L rfl) rfl ?_
   refine sw (c_pf (by simpa using hd) (L rfl)) t2 t0 ?_
   exact seq_nil ⟨⟨ob rfl (by simp only [hd,false_and]; rfl),rfl,rfl,trivial⟩,t2⟩
 refine ex_if rfl (fun hc=>?_) (fun hc=>?_)
 ·have hc:=dt hc
  refine exr (sw (c_fa un26 rfl sz24 (by decide) (by exact rfl) (L rfl)) t1 t1 ?_)
  refine lp2 ag24 sz24 (L rfl) rfl rfl (sw (c_fa un26 rfl sz24 (by decide) (by exact rfl) (L rfl)) t1 t1 ?_)
  refine lp2 ag24 sz24 (L rfl) rfl rfl (cK hG hX cl47 hN (rcmpZ a.num b.num (by omega) (by omega)) (L rfl) t2 ?_)
  refine aV (L rfl) rfl (zn [(4,_)] [] t1 trivial (ex_ret ?_))
  refine ⟨.inr rfl,ResVs.cast (.cons (.tmp rfl) .nil) ?_⟩
  rw [← q_cmp,hc.1,hc.2,Int.mul_one,Int.mul_one]
 ·refine ex_skip (show Exec _ _ _ _ _ from ?_)
  refine exd (by rfl) ?_
  refine sw (c_fa un26 rfl sz24 (by decide) (by exact rfl) (L rfl)) t1 t1 ?_
  refine lp2 ag24 sz24 (L rfl) rfl rfl (sw (c_fa un26 rfl sz24 (by decide) (by exact rfl) (L rfl)) t1 t1 ?_)
  refine lp2 ag24 sz24 (L rfl) rfl rfl (cK hG hX cl68 hN (rmulZ2 a.num b.den (by omega) (by omega)) (L rfl) t2 ?_)
  refine sw (c_fa un26 rfl sz24 (by decide) (by exact rfl) (L rfl)) t1 t1 ?_
  refine lp2 ag24 sz24 (L rfl) rfl rfl (sw (c_fa un26 rfl sz24 (by decide) (by exact rfl) (L rfl)) t1 t1 ?_)
  refine lp2 ag24 sz24 (L rfl) rfl rfl (cK hG hX cl68 hN (rmulZ2 b.num a.den (by omega) (by omega)) (L rfl) t2 ?_)
  refine cK hG hX cl47 hN (rcmpZ (a.num * b.den) (b.num * a.den) (by omega) (by omega)) (L rfl) t2 ?_
  refine aV (L rfl) rfl ?_
  refine seq_nil ⟨aoks [⟨[2],[2],[18],[]⟩,⟨[18],[2],[19],[]⟩,⟨[3],[3],[20],[]⟩,⟨[20],[3],[21],[]⟩,⟨[19,21],[],[22],[]⟩,⟨[3],[3],[23],[]⟩,⟨[23],[3],[24],[]⟩,⟨[2],[2],[25],[]⟩,⟨[25],[2],[26],[]⟩,⟨[24,26],[],[27],[]⟩,⟨[22,27],[],[28],[]⟩,⟨[28],[],[4],[]⟩] (by rfl) (by rfl) (by decide),[(4,_)],[],t1,trivial,?_⟩
  refine ex_ret ?_
  refine ⟨.inr rfl,ResVs.cast (.cons (.tmp rfl) .nil) ?_⟩
  rw [q_cmp]
theorem sm_R0 : R0.sm:=⟨⟨Wd.nil,Wd.nil⟩,by decide,by decide⟩
theorem k_sameR {a : RQ} (ha : a.sm) : Says E 16 [.agg (cR a),.agg (cR a)] (bZ true):=by
 have:=rsameR ha ha
 rwa [eqR_iff.2 rfl] at this
end Go.Proofs.YtcifhkfpmhifaaaGreatDoor.N
set_option maxRecDepth 100000
set_option maxHeartbeats 4000000
namespace Go.Proofs.YtcifhkfpmhifaaaGreatDoor.N
open Go Go.Proofs.YtcifhkfpmhifaaaGreatDoor.SH Go.Proofs.YtcifhkfpmhifaaaGreatDoor.NumA
open Go.Proofs.Tryz renaming call10 → cl10,call16 → cl16,call21 → cl21,call22 → cl22,call23 → cl23,call24 → cl24,call25 → cl25,call26 → cl26,call27 → cl27,call28 → cl28,call29 → cl29,call30 → cl30,call31 → cl31,call32 → cl32,call33 → cl33,call34 → cl34,call35 → cl35,call36 → cl36,call37 → cl37,call38 → cl38,call39 → cl39,call40 → cl40,call41 → cl41,isAgg26 → ag26,sizeOf26 → sz26,zeroValue26 → zv26
theorem small_q {k : Nat} {m n : Bool} {ws vs : List Int} (hs : smallR k ⟨m,ws,n,vs⟩ = true) (w1 : Wd ws) (w2 : Wd vs) : ∃ a : Rat,(m = decide (a.num < 0) ∧ ws = digs a.num.natAbs ∧ n = decide ((a.den : Int) < 0) ∧ vs = digs (a.den : Int).natAbs) ∧ qw a ≤ k:=by
 rw [smallR,Bool.and_eq_true,Bool.and_eq_true,decide_eq_true_eq,decide_eq_true_eq] at hs
 obtain ⟨⟨h1,h2⟩,h3⟩:=hs
 obtain ⟨a,ha⟩:=RQ.of_is (r:=⟨m,ws,n,vs⟩) ⟨w1,w2⟩ h3
 rw [RQ.of] at ha
 injection ha with e1 e2 e3 e4
 refine ⟨a,⟨e1,e2,e3,e4⟩,?_⟩
 have g1 : nw a.num ≤ k:=by unfold nw; rw [← e2]; simp only at h1; omega
 have g2 : nw (a.den : Int) ≤ k:=by unfold nw; rw [← e4]; simp only at h2; omega
 unfold qw; omega
theorem inv_qw {b : Rat} : qw b⁻¹ ≤ max (qw b) 1:=by
 by_cases h : b = 0
 ·subst h
  rw [show (0 : Rat)⁻¹ = 0 by decide +kernel,qw_zero]; omega
 ·have:=qw_inv h; omega
theorem bl_le_q (a : Rat) : bq a ≤ 32 * qw a:=by
 have h1:=bl_le_nw' a.num
 have h2:=bl_le_nw' (a.den : Int)
 rw [Int.natAbs_natCast] at h2
 have h3:=nw_num_le a
 have h4:=nw_den_le a
 unfold bq; omega
theorem qw_powN {b : Rat} {k e : Nat} (h1 : bl b.num.natAbs ≤ k) (h2 : bl (b.den : Int).natAbs ≤ k) (he : e ≤ 1048576 / k) (hk : 0 < k) : qw (b ^ e) ≤ qw b + 32769:=by
 have p1:=pow_nw' (A:=b.num) h1 he hk
 have p2:=pow_nw' (A:=(b.den : Int)) h2 he hk
 have e1:=Rat.num_pow b e
 have e2:=Rat.den_pow b e
 have n1:=nw_num_le b
 have n2:=nw_den_le b
 unfold qw at *
 rw [e1,e2,Int.natCast_pow]
 omega
theorem qw_zpow {a : Rat} {n : Int} (h : qE a n = 0) : qw (a ^ n) ≤ qw a + 32769:=by
 have hp:=qw_pos a
 by_cases hk : bq a ≤ 1
 ·rcases bq_small hk with rfl | h1 | h1
  ·by_cases hn : n = 0
   ·subst hn; rw [Rat.zpow_zero,qw_one]; omega
   ·have hn' : ¬ n < 0:=fun c=>by rw [qE,if_pos ⟨rfl,c⟩] at h; cases h
    rw [zero_zpow (by omega)]; omega
  ·rw [unit_zpow (.inl h1)]; split
   ·rw [qw_one]; omega
   ·omega
  ·rw [unit_zpow (.inr h1)]; split
   ·rw [qw_one]; omega
   ·omega
 ·have he : n.natAbs ≤ 1048576 / bq a:=by
   rw [qE] at h
   split at h
   ·cases h
   ·split at h
    ·cases h
    ·rename_i h2; omega
  have hb1 : bl a.num.natAbs ≤ bq a:=Nat.le_max_left _ _
  have hb2 : bl (a.den : Int).natAbs ≤ bq a:=by rw [Int.natAbs_natCast]; exact Nat.le_max_right _ _
  have hq:=qw_powN hb1 hb2 he (by omega)
  rcases zpow_cases a n with ⟨_,c2⟩ | ⟨_,c2⟩
  ·rw [c2]; exact hq
  ·rw [c2]; have:=inv_qw (b:=a ^ n.natAbs); omega
theorem qP_sm {a : Rat} {n : Int} (ha : qw a < 9999999) : (qP a n).sm:=by
 rw [qP]; split
 ·rename_i h; exact RQ.sm_of (Nat.lt_of_le_of_lt (qw_zpow h) (by omega))
 ·exact sm_R0
theorem dV_sm {a b : Rat} (ha : qw a < 100000) (hb : qw b < 100000) : (dV a b).sm:=by
 rw [dV]; split
 ·exact sm_R0
 ·rename_i h; exact RQ.sm_of (Nat.lt_of_le_of_lt (qw_div h) (by omega))
theorem k_same1 (a : Rat) (ha : qw a < 1000000000) : Says E 16 [pQ a,pQ a] (bZ true):=k_same ha ha rfl
def cP (k : Nat) (n : Int) : Bool:=decide (1 < k ∧ (n > Int.tdiv 3000 k ∧ n ≤ Int.tdiv 1048576 k ∨ n < 0 - Int.tdiv 3000 k ∧ n ≥ 0 - Int.tdiv 1048576 k))
theorem or5 (a b c d : Prop) : ¬ a ∨ (a ∧ b ∧ c) ∨ (a ∧ b ∧ ¬ c) ∨ (a ∧ ¬ b ∧ d) ∨ (a ∧ ¬ b ∧ ¬ d):=by
 by_cases a <;> by_cases b <;> by_cases c <;> by_cases d <;> simp [*]
theorem computes_says (am an bm bn : Bool) (aw av bw bv : List Int) (n : Int) (w1 : Wd aw) (w2 : Wd av) (w3 : Wd bw) (w4 : Wd bv) (n0 : -9223372036854775808 ≤ n) (n1 : n < 9223372036854775808) : Says E 4 [pR am aw an av,pR bm bw bn bv,vZ n] (bZ true):=by
 refine says_of (xs:=[bZ true]) Tryz.func4 rfl Tryz.ntmps4 Tryz.results4 (by simp) fun F hG hX0 hnt hdf P0=>?_
 obtain ⟨L,hX,hN⟩:=pro hnt hX0 hG
 refine exr (swb (c_bx (k:=3) (n:=4) pa4 rfl rfl (P0 _ rfl) (L rfl)) t1 t0 ⟨rfl,rfl⟩ (swb (c_bx (k:=4) (n:=4) pa4 rfl rfl (P0 _ rfl) (L rfl)) t1 t0 ⟨rfl,rfl⟩ (aV (L rfl) rfl (zn [(2,_),(3,_),(4,_)] [(3,_),(4,_)] t3 t2 (ex_seq ?_)))))
 refine exm (sl:=[(24,vb (!(smallR 12 ⟨am,aw,an,av⟩ && smallR 12 ⟨bm,bw,bn,bv⟩)))]) (sl0:=[(2,_),(3,_),(4,_)]) (hb:=[]) (hb0:=[(3,_),(4,_)]) t3 t2 ?_ ?_
 ·by_cases hA : smallR 12 ⟨am,aw,an,av⟩ = true
  ·refine lp4 ag26 sz26 (L rfl) rfl rfl (cK hG hX cl21 hN (small_says (r:=⟨am,aw,an,av⟩) 12 ⟨w1,w2⟩ (by decide)) (L rfl) t2 ?_)
   refine sw (c_no (L rfl)) t1 t0 (mV (L rfl) rfl (swg (g:=20) rfl (by rw [hA]; rfl) (c_lp ag26 sz26 (by rfl) (by exact al4) rfl (L rfl)) rfl t1 t1 ?_))
   refine swg (g:=20) rfl (by rw [hA]; rfl) (c_c hG hX cl21 rfl hN (small_says (r:=⟨bm,bw,bn,bv⟩) 12 ⟨w3,w4⟩ (by decide)) (L rfl)) rfl t2 t0 ?_
   refine swg (g:=20) rfl (by rw [hA]; rfl) (c_no (L rfl)) rfl t1 t0 ?_
   refine sw (c_pf (by rw [hA]; rfl) (L rfl)) t2 t0 ?_
   exact seq_nil ⟨⟨ob rfl (by rw [hA,Bool.true_and]),rfl,rfl,rfl,trivial⟩,t2⟩
  ·refine lp4 ag26 sz26 (L rfl) rfl rfl (cK hG hX cl21 hN (small_says (r:=⟨am,aw,an,av⟩) 12 ⟨w1,w2⟩ (by decide)) (L rfl) t2 ?_)
   refine sw (c_no (L rfl)) t1 t0 (mV (L rfl) rfl (swn (g:=20) rfl (by simpa using hA) (L rfl) rfl ?_))
   refine swn (g:=20) rfl (by simpa using hA) (L rfl) rfl ?_
   refine swn (g:=20) rfl (by simpa using hA) (L rfl) rfl ?_
   refine sw (c_pt (by simpa using hA) (L rfl)) t2 t0 ?_
   exact seq_nil ⟨⟨ob rfl (by rw [show smallR 12 ⟨am,aw,an,av⟩ = false by simpa using hA]; rfl),rfl,rfl,rfl,trivial⟩,t2⟩
 refine ex_if rfl (fun hc=>?_) (fun hc=>?_)
 ·refine exr (cK hG hX cl10 hN sane_says (L rfl) t0 (aV (L rfl) rfl (zn [(6,_)] [] t1 trivial (ex_ret ?_))))
  refine ⟨.inr rfl,ResVs.cast (.cons (.tmp rfl) .nil) ?_⟩
  rfl
 ·have hc : smallR 12 ⟨am,aw,an,av⟩ = true ∧ smallR 12 ⟨bm,bw,bn,bv⟩ = true:=by simpa using hc
  obtain ⟨a,⟨rfl,rfl,rfl,rfl⟩,qa⟩:=small_q (k:=12) hc.1 w1 w2
  obtain ⟨b,⟨rfl,rfl,rfl,rfl⟩,qb⟩:=small_q (k:=12) hc.2 w3 w4
  have qa9 : qw a < 1000000000:=by omega
  have qb9 : qw b < 1000000000:=by omega
  have hadd:=qw_add a b
  have hsub:=qw_sub a b
  have hmul:=qw_mul a b
  have hneg:=qw_neg a
  have hfl:=nw_floor a
  have sd:=dV_sm (a:=a) (b:=b) (by omega) (by omega)
  have sp:=qP_sm (a:=a) (n:=n) (by omega)
  have hb:=bl_le_q a
  refine ex_skip (show Exec _ _ _ _ _ from ?_)
  refine exr (lp4 ag26 sz26 (L rfl) rfl rfl (lp4 ag26 sz26 (L rfl) rfl rfl (cK hG hX cl22 hN (qdivA a b qa9 qb9) (L rfl) t2 (mV (L rfl) rfl (sw (c_ex rfl (L rfl)) t1 t0 (sw (c_ex rfl (L rfl)) t1 t0 (swb (c_al (k:=7) (n:=4) zv26 (.cons rfl (.cons rfl (.cons rfl (.cons rfl .nil)))) rfl (P0 _ rfl) (L rfl)) t0 t0 ⟨rfl,rfl⟩ (sb (c_sm sz26 (by rfl) pa4 rfl pu4) t2 t1 ?_))))))))
  refine aV (L rfl) rfl (zn [(2,_),(3,_),(4,_),(7,_),(8,_)] [(3,_),(4,_),(7,_)] t5 t3 (exr (lp4 ag26 sz26 (L rfl) rfl rfl (lp4 ag26 sz26 (L rfl) rfl rfl (cK hG hX cl23 hN (rqdivA a b qa9 qb9) (L rfl) t2 (mV (L rfl) rfl (sw (c_ex rfl (L rfl)) t1 t0 (sw (c_ex rfl (L rfl)) t1 t0 (swb (c_al (k:=9) (n:=4) zv26 (.cons rfl (.cons rfl (.cons rfl (.cons rfl .nil)))) rfl (P0 _ rfl) (L rfl)) t0 t0 ⟨rfl,rfl⟩ (sb (c_sm sz26 (by rfl) pa4 rfl pu4) t2 t1 ?_))))))))))
  refine aV (L rfl) rfl (zn [(2,_),(3,_),(4,_),(7,_),(8,_),(9,_),(10,_)] [(3,_),(4,_),(7,_),(9,_)] t7 t4 (exd (by rfl) ?_))
  refine lp4 ag26 sz26 (L rfl) rfl rfl (cK hG hX cl24 hN (qsign_says a qa9) (L rfl) t1 (lp4 ag26 sz26 (L rfl) rfl rfl (cK hG hX cl25 hN (rqsign_says a qa9) (L rfl) t1 (sw (c_e (L rfl)) t2 t0 (mV (L rfl) rfl (swg (g:=43) rfl (decide_eq_true rfl) (c_lp ag26 sz26 (by rfl) (by exact al4) rfl (L rfl)) rfl t1 t1 ?_))))))
  refine swg (g:=43) rfl (decide_eq_true rfl) (c_lp ag26 sz26 (by rfl) (by exact al4) rfl (L rfl)) rfl t1 t1 ?_
  refine swg (g:=43) rfl (decide_eq_true rfl) (c_c hG hX cl26 rfl hN (qcmp_says a b qa9 qb9) (L rfl)) rfl t2 t0 (swg (g:=43) rfl (decide_eq_true rfl) (c_lp ag26 sz26 (by rfl) (by exact al4) rfl (L rfl)) rfl t1 t1 ?_)
  refine swg (g:=43) rfl (decide_eq_true rfl) (c_lp ag26 sz26 (by rfl) (by exact al4) rfl (L rfl)) rfl t1 t1 ?_
  refine swg (g:=43) rfl (decide_eq_true rfl) (c_c hG hX cl27 rfl hN (rqcmp_says a b qa9 qb9) (L rfl)) rfl t2 t0 (swg (g:=43) rfl (decide_eq_true rfl) (c_e (L rfl)) rfl t2 t0 (sw (c_pt (decide_eq_true rfl) (L rfl)) t2 t0 (mV (L rfl) rfl (swg (g:=52) rfl (decide_eq_true rfl) (c_lp ag26 sz26 (by rfl) (by exact al4) rfl (L rfl)) rfl t1 t1 ?_))))
  refine swg (g:=52) rfl (decide_eq_true rfl) (c_c hG hX cl28 rfl hN (qneg_says a qa9) (L rfl)) rfl t1 t0 (swg (g:=52) rfl (decide_eq_true rfl) (c_lp ag26 sz26 (by rfl) (by exact al4) rfl (L rfl)) rfl t1 t1 ?_)
  refine swg (g:=52) rfl (decide_eq_true rfl) (c_c hG hX cl29 rfl hN (rqneg_says a qa9) (L rfl)) rfl t1 t0 (swg (g:=52) rfl (decide_eq_true rfl) (c_c hG hX cl16 rfl hN (k_same1 (-a) (by omega)) (L rfl)) rfl t2 t0 ?_)
  refine sw (c_pt (decide_eq_true rfl) (L rfl)) t2 t0 (mV (L rfl) rfl (swg (g:=59) rfl rfl (c_lp ag26 sz26 (by rfl) (by exact al4) rfl (L rfl)) rfl t1 t1 ?_))
  refine swg (g:=59) rfl rfl (c_lp ag26 sz26 (by rfl) (by exact al4) rfl (L rfl)) rfl t1 t1 ?_
  refine swg (g:=59) rfl rfl (c_c hG hX cl16 rfl hN (k_sameR sd) (L rfl)) rfl t2 t0 (sw (c_pt rfl (L rfl)) t2 t0 (mV (L rfl) rfl (gV (g:=64) rfl rfl (L rfl) rfl rfl (gV (g:=64) rfl rfl (L rfl) rfl rfl (swg (g:=64) rfl rfl (c_e (L rfl)) rfl t2 t0 (sw (c_pt rfl (L rfl)) t2 t0 (mV (L rfl) rfl (swg (g:=69) rfl (decide_eq_true rfl) (c_lp ag26 sz26 (by rfl) (by exact al4) rfl (L rfl)) rfl t1 t1 ?_))))))))
  refine swg (g:=69) rfl (decide_eq_true rfl) (c_c hG hX cl31 rfl hN (qfloor_says a qa9) (L rfl)) rfl t1 t0 (swg (g:=69) rfl (decide_eq_true rfl) (c_lp ag26 sz26 (by rfl) (by exact al4) rfl (L rfl)) rfl t1 t1 ?_)
  refine swg (g:=69) rfl (decide_eq_true rfl) (c_c hG hX cl32 rfl hN (rqfloor_says a qa9) (L rfl)) rfl t1 t0 (swg (g:=69) rfl (decide_eq_true rfl) (c_c hG hX cl30 rfl hN (k_zsame a.floor (by omega)) (L rfl)) rfl t2 t0 ?_)
  refine sw (c_pt (decide_eq_true rfl) (L rfl)) t2 t0 (aV (L rfl) rfl ?_)
  refine seq_nil ⟨aoks [⟨[3],[3],[38],[]⟩,⟨[38],[],[39],[]⟩,⟨[3],[3],[40],[]⟩,⟨[40],[],[41],[]⟩,⟨[39,41],[],[42],[]⟩,⟨[42],[],[43],[]⟩,⟨[43,3],[3],[44],[]⟩,⟨[43,4],[4],[45],[]⟩,⟨[43,44,45],[],[46],[]⟩,⟨[43,3],[3],[47],[]⟩,⟨[43,4],[4],[48],[]⟩,⟨[43,47,48],[],[49],[]⟩,⟨[43,46,49],[],[50],[]⟩,⟨[43,50],[],[51],[]⟩,⟨[51],[],[52],[]⟩,⟨[52,3],[3],[53],[]⟩,⟨[52,53],[],[54],[]⟩,⟨[52,3],[3],[55],[]⟩,⟨[52,55],[],[56],[]⟩,⟨[52,54,56],[],[57],[]⟩,⟨[52,57],[],[58],[]⟩,⟨[58],[],[59],[]⟩,⟨[59,7],[7],[60],[]⟩,⟨[59,9],[9],[61],[]⟩,⟨[59,60,61],[],[62],[]⟩,⟨[59,62],[],[63],[]⟩,⟨[63],[],[64],[]⟩,⟨[64,8],[],[65],[]⟩,⟨[64,10],[],[66],[]⟩,⟨[64,65,66],[],[67],[]⟩,⟨[64,67],[],[68],[]⟩,⟨[68],[],[69],[]⟩,⟨[69,3],[3],[70],[]⟩,⟨[69,70],[],[71],[]⟩,⟨[69,3],[3],[72],[]⟩,⟨[69,72],[],[73],[]⟩,⟨[69,71,73],[],[74],[]⟩,⟨[69,74],[],[75],[]⟩,⟨[75],[],[11],[]⟩] (by rfl) (by rfl) (by decide),[(2,_),(3,_),(4,_),(11,_)],[(3,_),(4,_)],t4,t2,?_⟩
  refine ex_seq (exd (by rfl) ?_)
  refine mV (L rfl) rfl (sw (c_no (L rfl)) t1 t0 (mV (L rfl) rfl (swg (g:=78) rfl rfl (c_lp ag26 sz26 (by rfl) (by exact al4) rfl (L rfl)) rfl t1 t1 ?_)))
  refine swg (g:=78) rfl rfl (c_lp ag26 sz26 (by rfl) (by exact al4) rfl (L rfl)) rfl t1 t1 ?_
  refine swg (g:=78) rfl rfl (c_c hG hX cl33 rfl hN (qadd_says a b qa9 qb9) (L rfl)) rfl t2 t0 (swg (g:=78) rfl rfl (c_lp ag26 sz26 (by rfl) (by exact al4) rfl (L rfl)) rfl t1 t1 ?_)
  refine swg (g:=78) rfl rfl (c_lp ag26 sz26 (by rfl) (by exact al4) rfl (L rfl)) rfl t1 t1 ?_
  refine swg (g:=78) rfl rfl (c_c hG hX cl34 rfl hN (rqadd_says a b qa9 qb9) (L rfl)) rfl t2 t0 (swg (g:=78) rfl rfl (c_c hG hX cl16 rfl hN (k_same1 (a + b) (by omega)) (L rfl)) rfl t2 t0 ?_)
  refine swg (g:=78) rfl rfl (c_no (L rfl)) rfl t1 t0 (sw (c_pf rfl (L rfl)) t2 t0 (mV (L rfl) rfl (swg (g:=88) rfl rfl (c_lp ag26 sz26 (by rfl) (by exact al4) rfl (L rfl)) rfl t1 t1 ?_)))
  refine swg (g:=88) rfl rfl (c_lp ag26 sz26 (by rfl) (by exact al4) rfl (L rfl)) rfl t1 t1 ?_
  refine swg (g:=88) rfl rfl (c_c hG hX cl35 rfl hN (qsub_says a b qa9 qb9) (L rfl)) rfl t2 t0 (swg (g:=88) rfl rfl (c_lp ag26 sz26 (by rfl) (by exact al4) rfl (L rfl)) rfl t1 t1 ?_)
  refine swg (g:=88) rfl rfl (c_lp ag26 sz26 (by rfl) (by exact al4) rfl (L rfl)) rfl t1 t1 ?_
  refine swg (g:=88) rfl rfl (c_c hG hX cl36 rfl hN (rqsub_says a b qa9 qb9) (L rfl)) rfl t2 t0 (swg (g:=88) rfl rfl (c_c hG hX cl16 rfl hN (k_same1 (a - b) (by omega)) (L rfl)) rfl t2 t0 ?_)
  refine swg (g:=88) rfl rfl (c_no (L rfl)) rfl t1 t0 (sw (c_pf rfl (L rfl)) t2 t0 (mV (L rfl) rfl (swg (g:=98) rfl rfl (c_lp ag26 sz26 (by rfl) (by exact al4) rfl (L rfl)) rfl t1 t1 ?_)))
  refine swg (g:=98) rfl rfl (c_lp ag26 sz26 (by rfl) (by exact al4) rfl (L rfl)) rfl t1 t1 ?_
  refine swg (g:=98) rfl rfl (c_c hG hX cl37 rfl hN (qmul_says a b qa9 qb9) (L rfl)) rfl t2 t0 (swg (g:=98) rfl rfl (c_lp ag26 sz26 (by rfl) (by exact al4) rfl (L rfl)) rfl t1 t1 ?_)
  refine swg (g:=98) rfl rfl (c_lp ag26 sz26 (by rfl) (by exact al4) rfl (L rfl)) rfl t1 t1 ?_
  refine swg (g:=98) rfl rfl (c_c hG hX cl38 rfl hN (rqmul_says a b qa9 qb9) (L rfl)) rfl t2 t0 (swg (g:=98) rfl rfl (c_c hG hX cl16 rfl hN (k_same1 (a * b) (by omega)) (L rfl)) rfl t2 t0 ?_)
  refine swg (g:=98) rfl rfl (c_no (L rfl)) rfl t1 t0 (sw (c_pf rfl (L rfl)) t2 t0 ?_)
  refine seq_nil ⟨aoks [⟨[11],[],[76],[]⟩,⟨[76],[],[77],[]⟩,⟨[77],[],[78],[]⟩,⟨[78,3],[3],[79],[]⟩,⟨[78,4],[4],[80],[]⟩,⟨[78,79,80],[],[81],[]⟩,⟨[78,3],[3],[82],[]⟩,⟨[78,4],[4],[83],[]⟩,⟨[78,82,83],[],[84],[]⟩,⟨[78,81,84],[],[85],[]⟩,⟨[78,85],[],[86],[]⟩,⟨[78,86],[],[87],[]⟩,⟨[87],[],[88],[]⟩,⟨[88,3],[3],[89],[]⟩,⟨[88,4],[4],[90],[]⟩,⟨[88,89,90],[],[91],[]⟩,⟨[88,3],[3],[92],[]⟩,⟨[88,4],[4],[93],[]⟩,⟨[88,92,93],[],[94],[]⟩,⟨[88,91,94],[],[95],[]⟩,⟨[88,95],[],[96],[]⟩,⟨[88,96],[],[97],[]⟩,⟨[97],[],[98],[]⟩,⟨[98,3],[3],[99],[]⟩,⟨[98,4],[4],[100],[]⟩,⟨[98,99,100],[],[101],[]⟩,⟨[98,3],[3],[102],[]⟩,⟨[98,4],[4],[103],[]⟩,⟨[98,102,103],[],[104],[]⟩,⟨[98,101,104],[],[105],[]⟩,⟨[98,105],[],[106],[]⟩,⟨[98,106],[],[107],[]⟩] (by rfl) (by rfl) (by decide),[(2,_),(3,_),(107,_)],[(3,_)],t3,t1,?_⟩
  refine ex_if rfl (fun hd=>?_) (fun hd=>?_)
  ·cases hd
  ·refine ex_skip (show Exec _ _ _ _ _ from ?_)
   refine ex_seq (exr (lp4 ag26 sz26 (L rfl) rfl rfl (cK hG hX cl39 hN (rqbits_says a qa9) (L rfl) t1 (aV (L rfl) rfl (zn [(2,_),(3,_),(12,_)] [(3,_)] t3 t1 ?_)))))
   have ht : ∀ k : Nat,1 < k → (0 ≤ Int.tdiv 3000 k ∧ Int.tdiv 3000 k ≤ 3000) ∧ (0 ≤ Int.tdiv 1048576 k ∧ Int.tdiv 1048576 k ≤ 1048576):=fun k hk=>by
    rw [show Int.tdiv 3000 (k : Int) = ((3000 / k : Nat) : Int) from rfl,show Int.tdiv 1048576 (k : Int) = ((1048576 / k : Nat) : Int) from rfl]
    have h1:=Nat.div_le_self 3000 k
    have h2:=Nat.div_le_self 1048576 k
    exact ⟨⟨Int.natCast_nonneg _,Int.ofNat_le.2 h1⟩,Int.natCast_nonneg _,Int.ofNat_le.2 h2⟩
   refine exm (sl:=[(137,vb (cP (bq a) n))]) (sl0:=[(2,_),(3,_)]) (hb:=[]) (hb0:=[(3,_)]) t2 t1 ?_ ?_
   ·rcases or5 (1 < bq a) (n > Int.tdiv 3000 (bq a : Int)) (n ≤ Int.tdiv 1048576 (bq a : Int)) (n < 0 - Int.tdiv 3000 (bq a : Int)) with h1 | ⟨h1,h2,h3⟩ | ⟨h1,h2,h3⟩ | ⟨h1,h2,h3⟩ | ⟨h1,h2,h3⟩
    ·refine mV (L rfl) rfl (sw (c_gt (L rfl)) t2 t0 (mV (L rfl) rfl (swn (g:=112) rfl (decide_eq_false (by omega)) (L rfl) rfl ?_)))
     refine swn (g:=112) rfl (decide_eq_false (by omega)) (L rfl) rfl ?_
     refine swn (g:=112) rfl (decide_eq_false (by omega)) (L rfl) rfl ?_
     refine swn (g:=112) rfl (decide_eq_false (by omega)) (L rfl) rfl ?_
     refine swn (g:=112) rfl (decide_eq_false (by omega)) (L rfl) rfl ?_
     refine swu (g:=117) rfl (L rfl) rfl (swu (g:=117) rfl (L rfl) rfl (swu (g:=117) rfl (L rfl) rfl (swu (g:=117) rfl (L rfl) rfl (swn (g:=112) rfl (decide_eq_false (by omega)) (L rfl) rfl ?_))))
     refine swn (g:=112) rfl (decide_eq_false (by omega)) (L rfl) rfl ?_
     refine swu (g:=123) rfl (L rfl) rfl (swu (g:=123) rfl (L rfl) rfl (swu (g:=123) rfl (L rfl) rfl (swu (g:=123) rfl (L rfl) rfl (swu (g:=123) rfl (L rfl) rfl (swu (g:=123) rfl (L rfl) rfl (swu (g:=129) rfl (L rfl) rfl (swu (g:=129) rfl (L rfl) rfl (swu (g:=129) rfl (L rfl) rfl (swu (g:=129) rfl (L rfl) rfl (swu (g:=129) rfl (L rfl) rfl (swu (g:=123) rfl (L rfl) rfl ?_)))))))))))
     refine swn (g:=112) rfl (decide_eq_false (by omega)) (L rfl) rfl ?_
     refine sw (c_pf (decide_eq_false (by omega)) (L rfl)) t2 t0 ?_
     exact seq_nil ⟨⟨ob rfl (by rw [cP]; exact (decide_eq_false (fun c=>h1 c.1)).symm),rfl,rfl,trivial⟩,t1⟩
    ·obtain ⟨⟨y1,y2⟩,y3,y4⟩:=ht _ h1
     refine mV (L rfl) rfl (sw (c_gt (L rfl)) t2 t0 (mV (L rfl) rfl (gV (g:=112) rfl (decide_eq_true (by omega)) (L rfl) rfl rfl ?_)))
     refine gV (g:=112) rfl (decide_eq_true (by omega)) (L rfl) rfl rfl ?_
     refine swg (g:=112) rfl (decide_eq_true (by omega)) (c_q (L rfl) (by omega) (w64 (by omega) (by omega))) rfl t2 t0 ?_
     refine swg (g:=112) rfl (decide_eq_true (by omega)) (c_gt (L rfl)) rfl t2 t0 ?_
     refine gV (g:=112) rfl (decide_eq_true (by omega)) (L rfl) rfl rfl ?_
     refine gV (g:=117) rfl (decide_eq_true h2) (L rfl) rfl rfl (gV (g:=117) rfl (decide_eq_true h2) (L rfl) rfl rfl (swg (g:=117) rfl (decide_eq_true h2) (c_q (L rfl) (by omega) (w64 (by omega) (by omega))) rfl t2 t0 ?_))
     refine swg (g:=117) rfl (decide_eq_true h2) (c_le (L rfl)) rfl t2 t0 (swg (g:=112) rfl (decide_eq_true (by omega)) (c_pt (decide_eq_true h2) (L rfl)) rfl t2 t0 ?_)
     refine gV (g:=112) rfl (decide_eq_true (by omega)) (L rfl) rfl rfl ?_
     refine swn (g:=123) rfl (decide_eq_true h3) (L rfl) rfl (swn (g:=123) rfl (decide_eq_true h3) (L rfl) rfl (swn (g:=123) rfl (decide_eq_true h3) (L rfl) rfl (swn (g:=123) rfl (decide_eq_true h3) (L rfl) rfl (swn (g:=123) rfl (decide_eq_true h3) (L rfl) rfl (swn (g:=123) rfl (decide_eq_true h3) (L rfl) rfl (swu (g:=129) rfl (L rfl) rfl (swu (g:=129) rfl (L rfl) rfl (swu (g:=129) rfl (L rfl) rfl (swu (g:=129) rfl (L rfl) rfl (swu (g:=129) rfl (L rfl) rfl (swn (g:=123) rfl (decide_eq_true h3) (L rfl) rfl ?_)))))))))))
     refine swg (g:=112) rfl (decide_eq_true (by omega)) (c_pt (decide_eq_true h3) (L rfl)) rfl t2 t0 ?_
     refine sw (c_pt (decide_eq_true (by omega)) (L rfl)) t2 t0 ?_
     exact seq_nil ⟨⟨ob rfl (by rw [cP]; exact (decide_eq_true ⟨h1,.inl ⟨h2,h3⟩⟩).symm),rfl,rfl,trivial⟩,t1⟩
    ·obtain ⟨⟨y1,y2⟩,y3,y4⟩:=ht _ h1
     refine mV (L rfl) rfl (sw (c_gt (L rfl)) t2 t0 (mV (L rfl) rfl (gV (g:=112) rfl (decide_eq_true (by omega)) (L rfl) rfl rfl ?_)))
     refine gV (g:=112) rfl (decide_eq_true (by omega)) (L rfl) rfl rfl ?_
     refine swg (g:=112) rfl (decide_eq_true (by omega)) (c_q (L rfl) (by omega) (w64 (by omega) (by omega))) rfl t2 t0 ?_
     refine swg (g:=112) rfl (decide_eq_true (by omega)) (c_gt (L rfl)) rfl t2 t0 ?_
     refine gV (g:=112) rfl (decide_eq_true (by omega)) (L rfl) rfl rfl ?_
     refine gV (g:=117) rfl (decide_eq_true h2) (L rfl) rfl rfl (gV (g:=117) rfl (decide_eq_true h2) (L rfl) rfl rfl (swg (g:=117) rfl (decide_eq_true h2) (c_q (L rfl) (by omega) (w64 (by omega) (by omega))) rfl t2 t0 ?_))
     refine swg (g:=117) rfl (decide_eq_true h2) (c_le (L rfl)) rfl t2 t0 (swg (g:=112) rfl (decide_eq_true (by omega)) (c_pt (decide_eq_true h2) (L rfl)) rfl t2 t0 ?_)
     refine gV (g:=112) rfl (decide_eq_true (by omega)) (L rfl) rfl rfl ?_
     refine gV (g:=123) rfl (decide_eq_false h3) (L rfl) rfl rfl (gV (g:=123) rfl (decide_eq_false h3) (L rfl) rfl rfl (swg (g:=123) rfl (decide_eq_false h3) (c_q (L rfl) (by omega) (w64 (by omega) (by omega))) rfl t2 t0 ?_))
     refine swg (g:=123) rfl (decide_eq_false h3) (c_ng (L rfl) (w64 (by omega) (by omega))) rfl t1 t0 ?_
     refine swg (g:=123) rfl (decide_eq_false h3) (c_ls (L rfl)) rfl t2 t0 (gV (g:=123) rfl (decide_eq_false h3) (L rfl) rfl rfl (swn (g:=129) rfl (decide_eq_false (by omega)) (L rfl) rfl ?_))
     refine swn (g:=129) rfl (decide_eq_false (by omega)) (L rfl) rfl ?_
     refine swn (g:=129) rfl (decide_eq_false (by omega)) (L rfl) rfl ?_
     refine swn (g:=129) rfl (decide_eq_false (by omega)) (L rfl) rfl ?_
     refine swn (g:=129) rfl (decide_eq_false (by omega)) (L rfl) rfl ?_
     refine swg (g:=123) rfl (decide_eq_false h3) (c_pf (decide_eq_false (by omega)) (L rfl)) rfl t2 t0 ?_
     refine swg (g:=112) rfl (decide_eq_true (by omega)) (c_pf (decide_eq_false h3) (L rfl)) rfl t2 t0 ?_
     refine sw (c_pt (decide_eq_true (by omega)) (L rfl)) t2 t0 ?_
     exact seq_nil ⟨⟨ob rfl (by rw [cP]; exact (decide_eq_false (by omega)).symm),rfl,rfl,trivial⟩,t1⟩
    ·obtain ⟨⟨y1,y2⟩,y3,y4⟩:=ht _ h1
     refine mV (L rfl) rfl (sw (c_gt (L rfl)) t2 t0 (mV (L rfl) rfl (gV (g:=112) rfl (decide_eq_true (by omega)) (L rfl) rfl rfl ?_)))
     refine gV (g:=112) rfl (decide_eq_true (by omega)) (L rfl) rfl rfl ?_
     refine swg (g:=112) rfl (decide_eq_true (by omega)) (c_q (L rfl) (by omega) (w64 (by omega) (by omega))) rfl t2 t0 ?_
     refine swg (g:=112) rfl (decide_eq_true (by omega)) (c_gt (L rfl)) rfl t2 t0 ?_
     refine gV (g:=112) rfl (decide_eq_true (by omega)) (L rfl) rfl rfl ?_
     refine swn (g:=117) rfl (decide_eq_false h2) (L rfl) rfl (swn (g:=117) rfl (decide_eq_false h2) (L rfl) rfl (swn (g:=117) rfl (decide_eq_false h2) (L rfl) rfl (swn (g:=117) rfl (decide_eq_false h2) (L rfl) rfl (swg (g:=112) rfl (decide_eq_true (by omega)) (c_pf (decide_eq_false h2) (L rfl)) rfl t2 t0 ?_))))
     refine gV (g:=112) rfl (decide_eq_true (by omega)) (L rfl) rfl rfl ?_
     refine gV (g:=123) rfl rfl (L rfl) rfl rfl (gV (g:=123) rfl rfl (L rfl) rfl rfl (swg (g:=123) rfl rfl (c_q (L rfl) (by omega) (w64 (by omega) (by omega))) rfl t2 t0 ?_))
     refine swg (g:=123) rfl rfl (c_ng (L rfl) (w64 (by omega) (by omega))) rfl t1 t0 ?_
     refine swg (g:=123) rfl rfl (c_ls (L rfl)) rfl t2 t0 (gV (g:=123) rfl rfl (L rfl) rfl rfl (gV (g:=129) rfl (decide_eq_true h3) (L rfl) rfl rfl (gV (g:=129) rfl (decide_eq_true h3) (L rfl) rfl rfl (swg (g:=129) rfl (decide_eq_true h3) (c_q (L rfl) (by omega) (w64 (by omega) (by omega))) rfl t2 t0 ?_))))
     refine swg (g:=129) rfl (decide_eq_true h3) (c_ng (L rfl) (w64 (by omega) (by omega))) rfl t1 t0 ?_
     refine swg (g:=129) rfl (decide_eq_true h3) (c_ge (L rfl)) rfl t2 t0 (swg (g:=123) rfl rfl (c_pt (decide_eq_true h3) (L rfl)) rfl t2 t0 (swg (g:=112) rfl (decide_eq_true (by omega)) (c_pf rfl (L rfl)) rfl t2 t0 ?_))
     refine sw (c_pt (decide_eq_true (by omega)) (L rfl)) t2 t0 ?_
     exact seq_nil ⟨⟨ob rfl (by rw [cP]; exact dec_eq ⟨fun c=>⟨h1,.inr ⟨h3,c⟩⟩,fun c=>(c.2.resolve_left (fun d=>h2 d.1)).2⟩),rfl,rfl,trivial⟩,t1⟩
    ·obtain ⟨⟨y1,y2⟩,y3,y4⟩:=ht _ h1
     refine mV (L rfl) rfl (sw (c_gt (L rfl)) t2 t0 (mV (L rfl) rfl (gV (g:=112) rfl (decide_eq_true (by omega)) (L rfl) rfl rfl ?_)))
     refine gV (g:=112) rfl (decide_eq_true (by omega)) (L rfl) rfl rfl ?_
     refine swg (g:=112) rfl (decide_eq_true (by omega)) (c_q (L rfl) (by omega) (w64 (by omega) (by omega))) rfl t2 t0 ?_
     refine swg (g:=112) rfl (decide_eq_true (by omega)) (c_gt (L rfl)) rfl t2 t0 ?_
     refine gV (g:=112) rfl (decide_eq_true (by omega)) (L rfl) rfl rfl ?_
     refine swn (g:=117) rfl (decide_eq_false h2) (L rfl) rfl (swn (g:=117) rfl (decide_eq_false h2) (L rfl) rfl (swn (g:=117) rfl (decide_eq_false h2) (L rfl) rfl (swn (g:=117) rfl (decide_eq_false h2) (L rfl) rfl (swg (g:=112) rfl (decide_eq_true (by omega)) (c_pf (decide_eq_false h2) (L rfl)) rfl t2 t0 ?_))))
     refine gV (g:=112) rfl (decide_eq_true (by omega)) (L rfl) rfl rfl ?_
     refine gV (g:=123) rfl rfl (L rfl) rfl rfl (gV (g:=123) rfl rfl (L rfl) rfl rfl (swg (g:=123) rfl rfl (c_q (L rfl) (by omega) (w64 (by omega) (by omega))) rfl t2 t0 ?_))
     refine swg (g:=123) rfl rfl (c_ng (L rfl) (w64 (by omega) (by omega))) rfl t1 t0 ?_
     refine swg (g:=123) rfl rfl (c_ls (L rfl)) rfl t2 t0 (gV (g:=123) rfl rfl (L rfl) rfl rfl (swn (g:=129) rfl (decide_eq_false h3) (L rfl) rfl (swn (g:=129) rfl (decide_eq_false h3) (L rfl) rfl (swn (g:=129) rfl (decide_eq_false h3) (L rfl) rfl (swn (g:=129) rfl (decide_eq_false h3) (L rfl) rfl (swn (g:=129) rfl (decide_eq_false h3) (L rfl) rfl (swg (g:=123) rfl rfl (c_pf (decide_eq_false h3) (L rfl)) rfl t2 t0 (swg (g:=112) rfl (decide_eq_true (by omega)) (c_pf rfl (L rfl)) rfl t2 t0 ?_))))))))
     refine sw (c_pt (decide_eq_true (by omega)) (L rfl)) t2 t0 ?_
     exact seq_nil ⟨⟨ob rfl (by rw [cP]; exact (decide_eq_false (fun c=>c.2.elim (fun d=>h2 d.1) (fun d=>h3 d.1))).symm),rfl,rfl,trivial⟩,t1⟩
   refine ex_if rfl (fun hp=>?_) (fun hp=>?_)
   ·refine exr (cK hG hX cl10 hN sane_says (L rfl) t0 (aV (L rfl) rfl (zn [(6,_)] [] t1 trivial (ex_ret ?_))))
    refine ⟨.inr rfl,ResVs.cast (.cons (.tmp rfl) .nil) ?_⟩
    rfl
   ·refine ex_skip (show Exec _ _ _ _ _ from ?_)
    refine exr (lp4 ag26 sz26 (L rfl) rfl rfl (mV (L rfl) rfl (cK hG hX cl40 hN (qpow_says a n (by omega) n0 n1) (L rfl) t2 ?_)))
    refine mV (L rfl) rfl (sw (c_ex rfl (L rfl)) t1 t0 (sw (c_ex rfl (L rfl)) t1 t0 (swb (c_al (k:=13) (n:=4) zv26 (.cons rfl (.cons rfl (.cons rfl (.cons rfl .nil)))) rfl (P0 _ rfl) (L rfl)) t0 t0 ⟨rfl,rfl⟩ (sb (c_sm sz26 (by rfl) pa4 rfl pu4) t2 t1 ?_))))
    refine aV (L rfl) rfl (zn [(2,_),(3,_),(13,_),(14,_)] [(3,_),(13,_)] t4 t2 (exr (lp4 ag26 sz26 (L rfl) rfl rfl (mV (L rfl) rfl (cK hG hX cl41 hN (rqpow_says a n (by omega) n0 n1) (L rfl) t2 ?_)))))
    refine mV (L rfl) rfl (sw (c_ex rfl (L rfl)) t1 t0 (sw (c_ex rfl (L rfl)) t1 t0 (swb (c_al (k:=15) (n:=4) zv26 (.cons rfl (.cons rfl (.cons rfl (.cons rfl .nil)))) rfl (P0 _ rfl) (L rfl)) t0 t0 ⟨rfl,rfl⟩ (sb (c_sm sz26 (by rfl) pa4 rfl pu4) t2 t1 ?_))))
    refine aV (L rfl) rfl (zn [(13,_),(14,_),(15,_),(16,_)] [(13,_),(15,_)] t4 t2 (exr (cK hG hX cl10 hN sane_says (L rfl) t0 (mV (L rfl) rfl (swg (g:=152) rfl rfl (c_lp ag26 sz26 (by rfl) (by exact al4) rfl (L rfl)) rfl t1 t1 ?_)))))
    refine swg (g:=152) rfl rfl (c_lp ag26 sz26 (by rfl) (by exact al4) rfl (L rfl)) rfl t1 t1 ?_
    refine swg (g:=152) rfl rfl (c_c hG hX cl16 rfl hN (k_sameR sp) (L rfl)) rfl t2 t0 (sw (c_pt rfl (L rfl)) t2 t0 (mV (L rfl) rfl (gV (g:=157) rfl rfl (L rfl) rfl rfl (gV (g:=157) rfl rfl (L rfl) rfl rfl (swg (g:=157) rfl rfl (c_e (L rfl)) rfl t2 t0 (sw (c_pt rfl (L rfl)) t2 t0 (aV (L rfl) rfl (zn [(6,_)] [] t1 trivial (ex_ret ?_)))))))))
    refine ⟨.inr rfl,ResVs.cast (.cons (.tmp rfl) .nil) ?_⟩
    simp
end Go.Proofs.YtcifhkfpmhifaaaGreatDoor.N
