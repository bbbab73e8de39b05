-- WRITTEN BY A PROGRAM OF THIS SESSION (wip/xprint) out of the translation. Not trusted: Lean checks it.
import Derived.Test.YtjmflccbddjlhaaPFmx0
import Derived.Test.YtjmflccbddjlhaaPFmx7
namespace Go.Proofs.Ytjmflccbddjlhaa.PFm
open Go.RowKit Go.Proofs.YtjmflccbddjlhaaW.PrintWords Go.Proofs.YtjmflccbddjlhaaW.PrintLast Go.Proofs.YtjmflccbddjlhaaW.PrintMore
attribute [local go_sem] max2_int min2_int max_two min_two max_three min_three max_four min_four   -- for this text's walks alone
set_option linter.unusedVariables false
set_option linter.unusedSimpArgs false

/-! ### versallaw17_affine: function 8 -/
def versallaw17_affine.f (a0_0 : Int) (a0_1 : Int) (a0_2 : Int) (a0_3 : Int) (a0_4 : Int) (a0_5 : Int) : Option (Int × Int × Int × Int × Int × Int):=(versalhand_Num.f a0_0).bind fun t287=>((versalhand_Num.f a0_1).bind fun t288=>((versalhand_Num.f a0_2).bind fun t289=>((versalhand_Num.f a0_3).bind fun t290=>((versalhand_Num.f a0_4).bind fun t291=>((versalhand_Num.f a0_5).bind fun t292=>(some (t287,wrap64 (Int.tdiv t288 16),wrap64 (Int.tdiv t289 16),t290,t291,t292)))))))
def versallaw17_affine.T1 : Bool × List (List Nat × List Nat):=(true,[([],[]),([0],[0]),([1],[1]),([],[]),([3],[3]),([4,2],[4]),([5],[5]),([],[]),([7],[7]),([8,5],[8]),([9],[9]),([],[]),([11],[11]),([12,9],[12]),([],[]),([14],[14]),([15,13],[15]),([],[]),([17],[17]),([18,16],[18]),([2,6,10,13,16,19],[2,6,10,13,16,19]),([20,19,0,1,2,3,4,5,6,7,8,9,10,11,12,13,14,15,16,17,18,19,20],[20])])
def versallaw17_affine.B1 : List Nat:=[0,1,3,0,8,31,63,0,128,447,959,0,2048,7103,0,16384,64447,0,131072,523199,1048575,2097151]
theorem versallaw17_affine.tab1 : rtab .any (opsOf Try.f8 1)=versallaw17_affine.T1:=by kernel_rfl
theorem versallaw17_affine.bits1 : waitsOk versallaw17_affine.T1.2 versallaw17_affine.B1=true:=by kernel_rfl
set_option maxHeartbeats 8000000 in
set_option maxRecDepth 100000 in
theorem versallaw17_affine.calls (a0_0 : Int) (a0_1 : Int) (a0_2 : Int) (a0_3 : Int) (a0_4 : Int) (a0_5 : Int) (r1 : Int) (r2 : Int) (r3 : Int) (r4 : Int) (r5 : Int) (r6 : Int) (w : World) (h : versallaw17_affine.f a0_0 a0_1 a0_2 a0_3 a0_4 a0_5=some (r1,r2,r3,r4,r5,r6)) :
  Calls Try.prog 8 #[.agg #[.int .i64 a0_0,.int .i64 a0_1,.int .i64 a0_2,.int .i64 a0_3,.int .i64 a0_4,.int .i64 a0_5]] w fun e w'=>e=.returned (.agg #[.int .i64 r1,.int .i64 r2,.int .i64 r3,.int .i64 r4,.int .i64 r5,.int .i64 r6])∧Below w.heap.size w w':=by
 have hu23:=Try.underlying23
 have hu26:=Try.underlying26
 have HB:=amk (Below.refl w.heap.size w)
 have H : ((versalhand_Num.f a0_0).bind fun t287=>((versalhand_Num.f a0_1).bind fun t288=>((versalhand_Num.f a0_2).bind fun t289=>((versalhand_Num.f a0_3).bind fun t290=>((versalhand_Num.f a0_4).bind fun t291=>((versalhand_Num.f a0_5).bind fun t292=>(some (t287,wrap64 (Int.tdiv t288 16),wrap64 (Int.tdiv t289 16),t290,t291,t292))))))))=some (r1,r2,r3,r4,r5,r6):=h
 clear h
 replace H:=Option.bind_eq_some_iff.mp H
 obtain ⟨t287,A20,H⟩:=H
 replace H : ((versalhand_Num.f a0_1).bind fun t288=>((versalhand_Num.f a0_2).bind fun t289=>((versalhand_Num.f a0_3).bind fun t290=>((versalhand_Num.f a0_4).bind fun t291=>((versalhand_Num.f a0_5).bind fun t292=>(some (t287,wrap64 (Int.tdiv t288 16),wrap64 (Int.tdiv t289 16),t290,t291,t292)))))))=some (r1,r2,r3,r4,r5,r6):=H
 have A2:=amk A20
 clear A20
 replace H:=Option.bind_eq_some_iff.mp H
 obtain ⟨t288,A30,H⟩:=H
 replace H : ((versalhand_Num.f a0_2).bind fun t289=>((versalhand_Num.f a0_3).bind fun t290=>((versalhand_Num.f a0_4).bind fun t291=>((versalhand_Num.f a0_5).bind fun t292=>(some (t287,wrap64 (Int.tdiv t288 16),wrap64 (Int.tdiv t289 16),t290,t291,t292))))))=some (r1,r2,r3,r4,r5,r6):=H
 have A3:=amk A30
 clear A30
 replace H:=Option.bind_eq_some_iff.mp H
 obtain ⟨t289,A40,H⟩:=H
 replace H : ((versalhand_Num.f a0_3).bind fun t290=>((versalhand_Num.f a0_4).bind fun t291=>((versalhand_Num.f a0_5).bind fun t292=>(some (t287,wrap64 (Int.tdiv t288 16),wrap64 (Int.tdiv t289 16),t290,t291,t292)))))=some (r1,r2,r3,r4,r5,r6):=H
 have A4:=amk A40
 clear A40
 replace H:=Option.bind_eq_some_iff.mp H
 obtain ⟨t290,A50,H⟩:=H
 replace H : ((versalhand_Num.f a0_4).bind fun t291=>((versalhand_Num.f a0_5).bind fun t292=>(some (t287,wrap64 (Int.tdiv t288 16),wrap64 (Int.tdiv t289 16),t290,t291,t292))))=some (r1,r2,r3,r4,r5,r6):=H
 have A5:=amk A50
 clear A50
 replace H:=Option.bind_eq_some_iff.mp H
 obtain ⟨t291,A60,H⟩:=H
 replace H : ((versalhand_Num.f a0_5).bind fun t292=>(some (t287,wrap64 (Int.tdiv t288 16),wrap64 (Int.tdiv t289 16),t290,t291,t292)))=some (r1,r2,r3,r4,r5,r6):=H
 have A6:=amk A60
 clear A60
 replace H:=Option.bind_eq_some_iff.mp H
 obtain ⟨t292,A70,H⟩:=H
 replace H : (some (t287,wrap64 (Int.tdiv t288 16),wrap64 (Int.tdiv t289 16),t290,t291,t292))=some (r1,r2,r3,r4,r5,r6):=H
 have A7:=amk A70
 clear A70
 simp only [Option.some.injEq,Prod.mk.injEq] at H
 obtain ⟨rfl,rfl,rfl,rfl,rfl,rfl⟩:=H
 go_enter Try.func8,Try.ntmps8
 try go_wp2_with (first|((with_reducible refine gate_dst (N:=1) rfl ?_);refine box_event ?hg (N:=1) ?hd (cs:=#[.int .i64 a0_0,.int .i64 a0_1,.int .i64 a0_2,.int .i64 a0_3,.int .i64 a0_4,.int .i64 a0_5]) (t:=23) ?hr ?_;(case hd=>rfl);(case hg=>rfl);(case hr=>first|(go_simp;done)|(go_simp;rfl));intro gb285 hg w8 hbox hb;have n0_:=amk (below_step (by repeat (first|(with_reducible first|exact HB.out|apply bAl|apply bDN|apply bD1)|exact HB.out)) hb);have n1_:=amk (hbox);have n2_:=amk ((by rw [hg];exact (below_size (by repeat (first|(with_reducible first|exact HB.out|apply bAl|apply bDN|apply bD1)|exact HB.out))) : w.heap.size≤gb285));have n3_:=amk ((by rw [hg];exact (below_size (by repeat (first|(with_reducible first|exact HB.out|apply bAl|apply bDN|apply bD1)|exact HB.out))) : w.heap.size≤gb285));clear HB;have HB:=n0_;have BK285:=n1_;have GW285:=n2_;have GE285:=n3_;clear n0_ n1_ n2_ n3_;clear hb hbox hg)|((with_reducible refine gate_dst (N:=2) rfl ?_);refine box_event ?hg (N:=2) ?hd (cs:=#[.int .i64 0,.int .i64 0,.int .i64 0,.int .i64 0,.int .i64 0,.int .i64 0]) (t:=26) ?hr ?_;(case hd=>rfl);(case hg=>rfl);(case hr=>first|(go_simp;done)|(go_simp;rfl));intro gb286 hg w9 hbox hb;have n0_:=amk (blk_below (g:=gb285) (o:=.cells #[.int .i64 a0_0,.int .i64 a0_1,.int .i64 a0_2,.int .i64 a0_3,.int .i64 a0_4,.int .i64 a0_5] 23 (0,0)) (by (with_reducible repeat first|apply kN|apply kD|apply kA);exact BK285.out) hb);have n1_:=amk (below_step (by repeat (first|(with_reducible first|exact HB.out|apply bAl|apply bDN|apply bD1|refine bSe ?_ GE285.out)|exact HB.out)) hb);have n2_:=amk (hbox);have n3_:=amk ((by rw [hg];exact (below_size (by repeat (first|(with_reducible first|exact HB.out|apply bAl|apply bDN|apply bD1|refine bSe ?_ GE285.out)|exact HB.out))) : w.heap.size≤gb286));have n4_:=amk ((by rw [hg];exact (below_size (by repeat (first|(with_reducible first|exact HB.out|apply bAl|apply bDN|apply bD1|refine bSe ?_ GE285.out)|exact HB.out))) : w.heap.size≤gb286));have n5_:=amk ((by rw [hg];exact Nat.ne_of_lt (blk_lt (g:=gb285) (o:=.cells #[.int .i64 a0_0,.int .i64 a0_1,.int .i64 a0_2,.int .i64 a0_3,.int .i64 a0_4,.int .i64 a0_5] 23 (0,0)) (by (with_reducible repeat first|apply kN|apply kD|apply kA);exact BK285.out)) : gb285 ≠ gb286));have n6_:=amk ((by rw [hg];exact Nat.ne_of_gt (blk_lt (g:=gb285) (o:=.cells #[.int .i64 a0_0,.int .i64 a0_1,.int .i64 a0_2,.int .i64 a0_3,.int .i64 a0_4,.int .i64 a0_5] 23 (0,0)) (by (with_reducible repeat first|apply kN|apply kD|apply kA);exact BK285.out)) : gb286 ≠ gb285));clear BK285;clear HB;have BK285:=n0_;have HB:=n1_;have BK286:=n2_;have GW286:=n3_;have GE286:=n4_;have NB285_286:=n5_;have NB286_285:=n6_;clear n0_ n1_ n2_ n3_ n4_ n5_ n6_;clear hb hbox hg))
 have n0_:=amk (blk_drew BK285.out)
 have n1_:=amk (blk_drew BK286.out)
 have n2_:=amk (bD1 HB.out)
 clear BK285
 clear BK286
 clear HB
 have BK285:=n0_
 have BK286:=n1_
 have HB:=n2_
 clear n0_ n1_ n2_
 refine start_ (n:=22) (S:=fun w'=>w'.cell? ⟨gb285,0,none⟩=some (.int .i64 a0_0)∧w'.cell? ⟨gb285,1,none⟩=some (.int .i64 a0_1)∧w'.cell? ⟨gb285,2,none⟩=some (.int .i64 a0_2)∧w'.cell? ⟨gb285,3,none⟩=some (.int .i64 a0_3)∧w'.cell? ⟨gb285,4,none⟩=some (.int .i64 a0_4)∧w'.cell? ⟨gb285,5,none⟩=some (.int .i64 a0_5)) (ds:=[]) #[false,false,false,false,false,false,false,false,false,false,false,false,false,false,false,false,false,false,false,false,false,false] (by kernel_rfl) rfl rfl ⟨(blk_cell BK285.out 0).trans rfl,(blk_cell BK285.out 1).trans rfl,(blk_cell BK285.out 2).trans rfl,(blk_cell BK285.out 3).trans rfl,(blk_cell BK285.out 4).trans rfl,(blk_cell BK285.out 5).trans rfl⟩ (fun hHeld=>?_);refine with_tabW versallaw17_affine.tab1 versallaw17_affine.bits1 (fun HT_ HW_=>?_)
 generalize w9.drew=w10 at BK285 BK286 HB hHeld ⊢
 refine pure_ (i:=0) (N:=some 3) (v:=?_) (a':=?_) #[true,false,false,false,false,false,false,false,false,false,false,false,false,false,false,false,false,false,false,false,false,false] rfl rfl (any_of HT_.out (by kernel_rfl)) (fun _ _ _ h=>h) (Or.inl ⟨by rfl,?_⟩) ?_ ?_
 rotate_left
 ·intro w'
  go_simp
  with_reducible rfl
 rotate_left
 ·simp only [Act.put,sTA,sCZ,sCS,i64_w,i32_w]
  rfl
 refine pure_ (i:=3) (N:=some 6) (v:=?_) (a':=?_) #[true,false,false,true,false,false,false,false,false,false,false,false,false,false,false,false,false,false,false,false,false,false] rfl rfl (any_of HT_.out (by kernel_rfl)) (fun _ _ _ h=>h) (Or.inl ⟨by rfl,?_⟩) ?_ ?_
 rotate_left
 ·intro w'
  go_simp
  with_reducible rfl
 rotate_left
 ·simp only [Act.put,sTA,sCZ,sCS,i64_w,i32_w]
  rfl
 refine pure_ (i:=7) (N:=some 10) (v:=?_) (a':=?_) #[true,false,false,true,false,false,false,true,false,false,false,false,false,false,false,false,false,false,false,false,false,false] rfl rfl (any_of HT_.out (by kernel_rfl)) (fun _ _ _ h=>h) (Or.inl ⟨by rfl,?_⟩) ?_ ?_
 rotate_left
 ·intro w'
  go_simp
  with_reducible rfl
 rotate_left
 ·simp only [Act.put,sTA,sCZ,sCS,i64_w,i32_w]
  rfl
 refine pure_ (i:=11) (N:=some 14) (v:=?_) (a':=?_) #[true,false,false,true,false,false,false,true,false,false,false,true,false,false,false,false,false,false,false,false,false,false] rfl rfl (any_of HT_.out (by kernel_rfl)) (fun _ _ _ h=>h) (Or.inl ⟨by rfl,?_⟩) ?_ ?_
 rotate_left
 ·intro w'
  go_simp
  with_reducible rfl
 rotate_left
 ·simp only [Act.put,sTA,sCZ,sCS,i64_w,i32_w]
  rfl
 refine pure_ (i:=14) (N:=some 17) (v:=?_) (a':=?_) #[true,false,false,true,false,false,false,true,false,false,false,true,false,false,true,false,false,false,false,false,false,false] rfl rfl (any_of HT_.out (by kernel_rfl)) (fun _ _ _ h=>h) (Or.inl ⟨by rfl,?_⟩) ?_ ?_
 rotate_left
 ·intro w'
  go_simp
  with_reducible rfl
 rotate_left
 ·simp only [Act.put,sTA,sCZ,sCS,i64_w,i32_w]
  rfl
 refine pure_ (i:=17) (N:=some 20) (v:=?_) (a':=?_) #[true,false,false,true,false,false,false,true,false,false,false,true,false,false,true,false,false,true,false,false,false,false] rfl rfl (any_of HT_.out (by kernel_rfl)) (fun _ _ _ h=>h) (Or.inl ⟨by rfl,?_⟩) ?_ ?_
 rotate_left
 ·intro w'
  go_simp
  with_reducible rfl
 rotate_left
 ·simp only [Act.put,sTA,sCZ,sCS,i64_w,i32_w]
  rfl
 refine take_ (i:=1) (N:=some 4) (v:=?_) (a':=?_) #[true,true,false,true,false,false,false,true,false,false,false,true,false,false,true,false,false,true,false,false,false,false] rfl rfl (take_ofW HT_.out HW_.out (by kernel_rfl)) (fun _ _ _ h=>h) (Or.inl ⟨by rfl,?_⟩) hHeld ?_ ?_
 rotate_left
 ·rintro w' ⟨s0,s1,s2,s3,s4,s5⟩
  go_simp
  with_reducible rfl
 rotate_left
 ·simp only [Act.put,sTA,sCZ,sCS,i64_w,i32_w]
  rfl
 refine take_ (i:=4) (N:=some 7) (v:=?_) (a':=?_) #[true,true,false,true,true,false,false,true,false,false,false,true,false,false,true,false,false,true,false,false,false,false] rfl rfl (take_ofW HT_.out HW_.out (by kernel_rfl)) (fun _ _ _ h=>h) (Or.inl ⟨by rfl,?_⟩) hHeld ?_ ?_
 rotate_left
 ·rintro w' ⟨s0,s1,s2,s3,s4,s5⟩
  go_simp
  with_reducible rfl
 rotate_left
 ·simp only [Act.put,sTA,sCZ,sCS,i64_w,i32_w]
  rfl
 refine take_ (i:=8) (N:=some 11) (v:=?_) (a':=?_) #[true,true,false,true,true,false,false,true,true,false,false,true,false,false,true,false,false,true,false,false,false,false] rfl rfl (take_ofW HT_.out HW_.out (by kernel_rfl)) (fun _ _ _ h=>h) (Or.inl ⟨by rfl,?_⟩) hHeld ?_ ?_
 rotate_left
 ·rintro w' ⟨s0,s1,s2,s3,s4,s5⟩
  go_simp
  with_reducible rfl
 rotate_left
 ·simp only [Act.put,sTA,sCZ,sCS,i64_w,i32_w]
  rfl
 refine take_ (i:=12) (N:=some 15) (v:=?_) (a':=?_) #[true,true,false,true,true,false,false,true,true,false,false,true,true,false,true,false,false,true,false,false,false,false] rfl rfl (take_ofW HT_.out HW_.out (by kernel_rfl)) (fun _ _ _ h=>h) (Or.inl ⟨by rfl,?_⟩) hHeld ?_ ?_
 rotate_left
 ·rintro w' ⟨s0,s1,s2,s3,s4,s5⟩
  go_simp
  with_reducible rfl
 rotate_left
 ·simp only [Act.put,sTA,sCZ,sCS,i64_w,i32_w]
  rfl
 refine take_ (i:=15) (N:=some 18) (v:=?_) (a':=?_) #[true,true,false,true,true,false,false,true,true,false,false,true,true,false,true,true,false,true,false,false,false,false] rfl rfl (take_ofW HT_.out HW_.out (by kernel_rfl)) (fun _ _ _ h=>h) (Or.inl ⟨by rfl,?_⟩) hHeld ?_ ?_
 rotate_left
 ·rintro w' ⟨s0,s1,s2,s3,s4,s5⟩
  go_simp
  with_reducible rfl
 rotate_left
 ·simp only [Act.put,sTA,sCZ,sCS,i64_w,i32_w]
  rfl
 refine take_ (i:=18) (N:=some 21) (v:=?_) (a':=?_) #[true,true,false,true,true,false,false,true,true,false,false,true,true,false,true,true,false,true,true,false,false,false] rfl rfl (take_ofW HT_.out HW_.out (by kernel_rfl)) (fun _ _ _ h=>h) (Or.inl ⟨by rfl,?_⟩) hHeld ?_ ?_
 rotate_left
 ·rintro w' ⟨s0,s1,s2,s3,s4,s5⟩
  go_simp
  with_reducible rfl
 rotate_left
 ·simp only [Act.put,sTA,sCZ,sCS,i64_w,i32_w]
  rfl
 refine one_ (i:=2) (N:=some 5) #[true,true,true,true,true,false,false,true,true,false,false,true,true,false,true,true,false,true,true,false,false,false] rfl rfl (one_of HT_.out (by kernel_rfl)) (by decide) (fun K hK=>?_)
 refine goes_ Try.func29 (by kernel_rfl) rfl #[.int .i64 a0_0] (by rfl) rfl rfl (by (try simp only [List.map_toArray,List.map_cons,List.map_nil]);first|done|rfl|(simp only [List.length_drop,List.length_take];rfl)) ?_
 with_reducible refine (versalhand_Num.calls a0_0 t287 _ A2.out).mono ?_
 rintro e w' ⟨rfl,⟨nd,rfl⟩⟩
 refine ⟨_,rfl,?_⟩
 refine hK.out _ _ ⟨(blk_cell BK285.out 0).trans rfl,(blk_cell BK285.out 1).trans rfl,(blk_cell BK285.out 2).trans rfl,(blk_cell BK285.out 3).trans rfl,(blk_cell BK285.out 4).trans rfl,(blk_cell BK285.out 5).trans rfl⟩ (fun hHeld=>?_)
 clear hK K
 refine norm_ (a':=?_) ?_ ?_
 rotate_left
 ·show Act.put _ (some 5) _=_
  simp only [Act.put,sTA,sCZ,sCS,i64_w,i32_w]
  rfl
 refine one_ (i:=5) (N:=some 8) #[true,true,true,true,true,true,false,true,true,false,false,true,true,false,true,true,false,true,true,false,false,false] rfl rfl (one_of HT_.out (by kernel_rfl)) (by decide) (fun K hK=>?_)
 refine goes_ Try.func29 (by kernel_rfl) rfl #[.int .i64 a0_1] (by rfl) rfl rfl (by (try simp only [List.map_toArray,List.map_cons,List.map_nil]);first|done|rfl|(simp only [List.length_drop,List.length_take];rfl)) ?_
 with_reducible refine (versalhand_Num.calls a0_1 t288 _ A3.out).mono ?_
 rintro e w' ⟨rfl,⟨nd,rfl⟩⟩
 refine ⟨_,rfl,?_⟩
 refine hK.out _ _ ⟨(blk_cell BK285.out 0).trans rfl,(blk_cell BK285.out 1).trans rfl,(blk_cell BK285.out 2).trans rfl,(blk_cell BK285.out 3).trans rfl,(blk_cell BK285.out 4).trans rfl,(blk_cell BK285.out 5).trans rfl⟩ (fun hHeld=>?_)
 clear hK K
 refine norm_ (a':=?_) ?_ ?_
 rotate_left
 ·show Act.put _ (some 8) _=_
  simp only [Act.put,sTA,sCZ,sCS,i64_w,i32_w]
  rfl
 refine pure_ (i:=6) (N:=some 9) (v:=?_) (a':=?_) #[true,true,true,true,true,true,true,true,true,false,false,true,true,false,true,true,false,true,true,false,false,false] rfl rfl (any_of HT_.out (by kernel_rfl)) (fun _ _ _ h=>h) (Or.inl ⟨by rfl,?_⟩) ?_ ?_
 rotate_left
 ·intro w'
  go_simp
  with_reducible rfl
 rotate_left
 ·simp only [Act.put,sTA,sCZ,sCS,i64_w,i32_w]
  rfl
 refine one_ (i:=9) (N:=some 12) #[true,true,true,true,true,true,true,true,true,true,false,true,true,false,true,true,false,true,true,false,false,false] rfl rfl (one_of HT_.out (by kernel_rfl)) (by decide) (fun K hK=>?_)
 refine goes_ Try.func29 (by kernel_rfl) rfl #[.int .i64 a0_2] (by rfl) rfl rfl (by (try simp only [List.map_toArray,List.map_cons,List.map_nil]);first|done|rfl|(simp only [List.length_drop,List.length_take];rfl)) ?_
 with_reducible refine (versalhand_Num.calls a0_2 t289 _ A4.out).mono ?_
 rintro e w' ⟨rfl,⟨nd,rfl⟩⟩
 refine ⟨_,rfl,?_⟩
 refine hK.out _ _ ⟨(blk_cell BK285.out 0).trans rfl,(blk_cell BK285.out 1).trans rfl,(blk_cell BK285.out 2).trans rfl,(blk_cell BK285.out 3).trans rfl,(blk_cell BK285.out 4).trans rfl,(blk_cell BK285.out 5).trans rfl⟩ (fun hHeld=>?_)
 clear hK K
 refine norm_ (a':=?_) ?_ ?_
 rotate_left
 ·show Act.put _ (some 12) _=_
  simp only [Act.put,sTA,sCZ,sCS,i64_w,i32_w]
  rfl
 refine pure_ (i:=10) (N:=some 13) (v:=?_) (a':=?_) #[true,true,true,true,true,true,true,true,true,true,true,true,true,false,true,true,false,true,true,false,false,false] rfl rfl (any_of HT_.out (by kernel_rfl)) (fun _ _ _ h=>h) (Or.inl ⟨by rfl,?_⟩) ?_ ?_
 rotate_left
 ·intro w'
  go_simp
  with_reducible rfl
 rotate_left
 ·simp only [Act.put,sTA,sCZ,sCS,i64_w,i32_w]
  rfl
 refine one_ (i:=13) (N:=some 16) #[true,true,true,true,true,true,true,true,true,true,true,true,true,true,true,true,false,true,true,false,false,false] rfl rfl (one_of HT_.out (by kernel_rfl)) (by decide) (fun K hK=>?_)
 refine goes_ Try.func29 (by kernel_rfl) rfl #[.int .i64 a0_3] (by rfl) rfl rfl (by (try simp only [List.map_toArray,List.map_cons,List.map_nil]);first|done|rfl|(simp only [List.length_drop,List.length_take];rfl)) ?_
 with_reducible refine (versalhand_Num.calls a0_3 t290 _ A5.out).mono ?_
 rintro e w' ⟨rfl,⟨nd,rfl⟩⟩
 refine ⟨_,rfl,?_⟩
 refine hK.out _ _ ⟨(blk_cell BK285.out 0).trans rfl,(blk_cell BK285.out 1).trans rfl,(blk_cell BK285.out 2).trans rfl,(blk_cell BK285.out 3).trans rfl,(blk_cell BK285.out 4).trans rfl,(blk_cell BK285.out 5).trans rfl⟩ (fun hHeld=>?_)
 clear hK K
 refine norm_ (a':=?_) ?_ ?_
 rotate_left
 ·show Act.put _ (some 16) _=_
  simp only [Act.put,sTA,sCZ,sCS,i64_w,i32_w]
  rfl
 refine one_ (i:=16) (N:=some 19) #[true,true,true,true,true,true,true,true,true,true,true,true,true,true,true,true,true,true,true,false,false,false] rfl rfl (one_of HT_.out (by kernel_rfl)) (by decide) (fun K hK=>?_)
 refine goes_ Try.func29 (by kernel_rfl) rfl #[.int .i64 a0_4] (by rfl) rfl rfl (by (try simp only [List.map_toArray,List.map_cons,List.map_nil]);first|done|rfl|(simp only [List.length_drop,List.length_take];rfl)) ?_
 with_reducible refine (versalhand_Num.calls a0_4 t291 _ A6.out).mono ?_
 rintro e w' ⟨rfl,⟨nd,rfl⟩⟩
 refine ⟨_,rfl,?_⟩
 refine hK.out _ _ ⟨(blk_cell BK285.out 0).trans rfl,(blk_cell BK285.out 1).trans rfl,(blk_cell BK285.out 2).trans rfl,(blk_cell BK285.out 3).trans rfl,(blk_cell BK285.out 4).trans rfl,(blk_cell BK285.out 5).trans rfl⟩ (fun hHeld=>?_)
 clear hK K
 refine norm_ (a':=?_) ?_ ?_
 rotate_left
 ·show Act.put _ (some 19) _=_
  simp only [Act.put,sTA,sCZ,sCS,i64_w,i32_w]
  rfl
 refine one_ (i:=19) (N:=some 22) #[true,true,true,true,true,true,true,true,true,true,true,true,true,true,true,true,true,true,true,true,false,false] rfl rfl (one_of HT_.out (by kernel_rfl)) (by decide) (fun K hK=>?_)
 refine goes_ Try.func29 (by kernel_rfl) rfl #[.int .i64 a0_5] (by rfl) rfl rfl (by (try simp only [List.map_toArray,List.map_cons,List.map_nil]);first|done|rfl|(simp only [List.length_drop,List.length_take];rfl)) ?_
 with_reducible refine (versalhand_Num.calls a0_5 t292 _ A7.out).mono ?_
 rintro e w' ⟨rfl,⟨nd,rfl⟩⟩
 refine ⟨_,rfl,?_⟩
 refine hK.out _ _ ⟨(blk_cell BK285.out 0).trans rfl,(blk_cell BK285.out 1).trans rfl,(blk_cell BK285.out 2).trans rfl,(blk_cell BK285.out 3).trans rfl,(blk_cell BK285.out 4).trans rfl,(blk_cell BK285.out 5).trans rfl⟩ (fun hHeld=>?_)
 clear hK K
 refine norm_ (a':=?_) ?_ ?_
 rotate_left
 ·show Act.put _ (some 22) _=_
  simp only [Act.put,sTA,sCZ,sCS,i64_w,i32_w]
  rfl
 refine pure_ (i:=20) (N:=some 23) (v:=?_) (a':=?_) #[true,true,true,true,true,true,true,true,true,true,true,true,true,true,true,true,true,true,true,true,true,false] rfl rfl (any_of HT_.out (by kernel_rfl)) (fun _ _ _ h=>h) (Or.inl ⟨by rfl,?_⟩) ?_ ?_
 rotate_left
 ·intro w'
  go_simp
  with_reducible rfl
 rotate_left
 ·simp only [Act.put,sTA,sCZ,sCS,i64_w,i32_w]
  rfl
 refine one_ (i:=21) (N:=none) #[true,true,true,true,true,true,true,true,true,true,true,true,true,true,true,true,true,true,true,true,true,true] rfl rfl (one_of HT_.out (by kernel_rfl)) (by decide) (fun K hK=>?_)
 have hs11 : w10.cell? ⟨gb286,0,none⟩=some (.int .i64 0):=(blk_cell BK286.out 0).trans rfl
 have hfs11:=blk_frozen BK286.out 0
 have hns11_0:=NB285_286.out
 have hms11_0:=NB286_285.out
 have hs12 : w10.cell? ⟨gb286,1,none⟩=some (.int .i64 0):=(blk_cell BK286.out 1).trans rfl
 have hfs12:=blk_frozen BK286.out 1
 have hns12_0:=NB285_286.out
 have hms12_0:=NB286_285.out
 have hs13 : w10.cell? ⟨gb286,2,none⟩=some (.int .i64 0):=(blk_cell BK286.out 2).trans rfl
 have hfs13:=blk_frozen BK286.out 2
 have hns13_0:=NB285_286.out
 have hms13_0:=NB286_285.out
 have hs14 : w10.cell? ⟨gb286,3,none⟩=some (.int .i64 0):=(blk_cell BK286.out 3).trans rfl
 have hfs14:=blk_frozen BK286.out 3
 have hns14_0:=NB285_286.out
 have hms14_0:=NB286_285.out
 have hs15 : w10.cell? ⟨gb286,4,none⟩=some (.int .i64 0):=(blk_cell BK286.out 4).trans rfl
 have hfs15:=blk_frozen BK286.out 4
 have hns15_0:=NB285_286.out
 have hms15_0:=NB286_285.out
 have hs16 : w10.cell? ⟨gb286,5,none⟩=some (.int .i64 0):=(blk_cell BK286.out 5).trans rfl
 have hfs16:=blk_frozen BK286.out 5
 have hns16_0:=NB285_286.out
 have hms16_0:=NB286_285.out
 refine skip_ (w1:=?_) (by rfl) rfl ?_ ?_
 rotate_left
 ·go_simp
  rfl
 refine hK.out _ _ ⟨((cell_far (p:=⟨gb286,_,none⟩) NB285_286.out _).trans (((cell_far (p:=⟨gb286,_,none⟩) NB285_286.out _).trans (((cell_far (p:=⟨gb286,_,none⟩) NB285_286.out _).trans (((cell_far (p:=⟨gb286,_,none⟩) NB285_286.out _).trans (((cell_far (p:=⟨gb286,_,none⟩) NB285_286.out _).trans (((cell_far (p:=⟨gb286,_,none⟩) NB285_286.out _).trans (hHeld.1)))))))))))),((cell_far (p:=⟨gb286,_,none⟩) NB285_286.out _).trans (((cell_far (p:=⟨gb286,_,none⟩) NB285_286.out _).trans (((cell_far (p:=⟨gb286,_,none⟩) NB285_286.out _).trans (((cell_far (p:=⟨gb286,_,none⟩) NB285_286.out _).trans (((cell_far (p:=⟨gb286,_,none⟩) NB285_286.out _).trans (((cell_far (p:=⟨gb286,_,none⟩) NB285_286.out _).trans (hHeld.2.1)))))))))))),((cell_far (p:=⟨gb286,_,none⟩) NB285_286.out _).trans (((cell_far (p:=⟨gb286,_,none⟩) NB285_286.out _).trans (((cell_far (p:=⟨gb286,_,none⟩) NB285_286.out _).trans (((cell_far (p:=⟨gb286,_,none⟩) NB285_286.out _).trans (((cell_far (p:=⟨gb286,_,none⟩) NB285_286.out _).trans (((cell_far (p:=⟨gb286,_,none⟩) NB285_286.out _).trans (hHeld.2.2.1)))))))))))),((cell_far (p:=⟨gb286,_,none⟩) NB285_286.out _).trans (((cell_far (p:=⟨gb286,_,none⟩) NB285_286.out _).trans (((cell_far (p:=⟨gb286,_,none⟩) NB285_286.out _).trans (((cell_far (p:=⟨gb286,_,none⟩) NB285_286.out _).trans (((cell_far (p:=⟨gb286,_,none⟩) NB285_286.out _).trans (((cell_far (p:=⟨gb286,_,none⟩) NB285_286.out _).trans (hHeld.2.2.2.1)))))))))))),((cell_far (p:=⟨gb286,_,none⟩) NB285_286.out _).trans (((cell_far (p:=⟨gb286,_,none⟩) NB285_286.out _).trans (((cell_far (p:=⟨gb286,_,none⟩) NB285_286.out _).trans (((cell_far (p:=⟨gb286,_,none⟩) NB285_286.out _).trans (((cell_far (p:=⟨gb286,_,none⟩) NB285_286.out _).trans (((cell_far (p:=⟨gb286,_,none⟩) NB285_286.out _).trans (hHeld.2.2.2.2.1)))))))))))),((cell_far (p:=⟨gb286,_,none⟩) NB285_286.out _).trans (((cell_far (p:=⟨gb286,_,none⟩) NB285_286.out _).trans (((cell_far (p:=⟨gb286,_,none⟩) NB285_286.out _).trans (((cell_far (p:=⟨gb286,_,none⟩) NB285_286.out _).trans (((cell_far (p:=⟨gb286,_,none⟩) NB285_286.out _).trans (((cell_far (p:=⟨gb286,_,none⟩) NB285_286.out _).trans (hHeld.2.2.2.2.2))))))))))))⟩ (fun hHeld=>?_)
 clear hK K
 refine done_ (done_of HT_.out (by kernel_rfl)) ?_
 try go_wp2
 refine bodyPost_ret (results_cell_row rfl _ _ gb286 26 #[.int .i64 t287,.int .i64 (wrap64 (Int.tdiv t288 16)),.int .i64 (wrap64 (Int.tdiv t289 16)),.int .i64 t290,.int .i64 t291,.int .i64 t292] (0,0) _ rfl (by (with_reducible repeat first|apply kN|apply kD|apply kA);refine blk_put (cs:=#[.int .i64 t287,.int .i64 (wrap64 (Int.tdiv t288 16)),.int .i64 (wrap64 (Int.tdiv t289 16)),.int .i64 t290,.int .i64 t291,.int .i64 0]) ?_ 5 _ rfl;(with_reducible repeat first|apply kN|apply kD|apply kA);refine blk_put (cs:=#[.int .i64 t287,.int .i64 (wrap64 (Int.tdiv t288 16)),.int .i64 (wrap64 (Int.tdiv t289 16)),.int .i64 t290,.int .i64 0,.int .i64 0]) ?_ 4 _ rfl;(with_reducible repeat first|apply kN|apply kD|apply kA);refine blk_put (cs:=#[.int .i64 t287,.int .i64 (wrap64 (Int.tdiv t288 16)),.int .i64 (wrap64 (Int.tdiv t289 16)),.int .i64 0,.int .i64 0,.int .i64 0]) ?_ 3 _ rfl;(with_reducible repeat first|apply kN|apply kD|apply kA);refine blk_put (cs:=#[.int .i64 t287,.int .i64 (wrap64 (Int.tdiv t288 16)),.int .i64 0,.int .i64 0,.int .i64 0,.int .i64 0]) ?_ 2 _ rfl;(with_reducible repeat first|apply kN|apply kD|apply kA);refine blk_put (cs:=#[.int .i64 t287,.int .i64 0,.int .i64 0,.int .i64 0,.int .i64 0,.int .i64 0]) ?_ 1 _ rfl;(with_reducible repeat first|apply kN|apply kD|apply kA);refine blk_put (cs:=#[.int .i64 0,.int .i64 0,.int .i64 0,.int .i64 0,.int .i64 0,.int .i64 0]) ?_ 0 _ rfl;(with_reducible repeat first|apply kN|apply kD|apply kA);exact BK286.out) Try.underlying26 rfl (by kernel_rfl)) rfl ?_
 exact ⟨by first|rfl|(simp [errW_none,errW_some] <;> rfl)|(simp [*,errW_none,errW_some] <;> rfl),by repeat (first|(with_reducible first|exact HB.out|apply bAl|apply bDN|apply bD1|refine bSe ?_ GE285.out|refine bSe ?_ GE286.out)|exact HB.out)⟩

end Go.Proofs.Ytjmflccbddjlhaa.PFm
