-- WRITTEN BY A PROGRAM OF THIS SESSION (wip/xprint) out of the translation. Not trusted: Lean checks it.
import Derived.Test.YtjmflccbddjlhaaPFmx0
namespace Go.Proofs.Ytjmflccbddjlhaa.PFm
open Go.RowKit Go.Proofs.YtjmflccbddjlhaaW.PrintWords Go.Proofs.YtjmflccbddjlhaaW.PrintLast Go.Proofs.YtjmflccbddjlhaaW.PrintMore
attribute [local go_sem] max2_int min2_int max_two min_two max_three min_three max_four min_four   -- for this text's walks alone
set_option linter.unusedVariables false
set_option linter.unusedSimpArgs false

/-! ### versalref2_Within: function 54 -/
def versalref2_Within.f (a0 : Int) (a1 : Int) (a2 : Int) : Option (Int):=some (mx a1 (mn a2 a0))
set_option maxHeartbeats 8000000 in
set_option maxRecDepth 100000 in
theorem versalref2_Within.calls (a0 : Int) (a1 : Int) (a2 : Int) (r : Int) (w : World) (h : versalref2_Within.f a0 a1 a2=some r) :
  Calls Try.prog 54 #[.int .i64 a0,.int .i64 a1,.int .i64 a2] w fun e w'=>e=.returned (.int .i64 r)∧Below w.heap.size w w':=by
 have HB:=amk (Below.refl w.heap.size w)
 have H : (some (mx a1 (mn a2 a0)))=some r:=h
 clear h
 obtain ⟨ji4,hji4⟩ : ∃ j_ : Int,(mn a2 a0)=j_:=⟨_,rfl⟩
 replace H : (some (mx a1 (ji4)))=some r:=by first|(rw [hji4] at H;exact H)|(simp only [hji4] at H ⊢;exact H)
 have hji4_ : (if a0 < a2 then a0 else a2)=ji4:=hji4
 obtain ⟨ji5,hji5⟩ : ∃ j_ : Int,(mx a1 (ji4))=j_:=⟨_,rfl⟩
 replace H : (some ji5)=some r:=by first|(rw [hji5] at H;exact H)|(simp only [hji5] at H ⊢;exact H)
 have hji5_ : (if a1 < (ji4) then (ji4) else a1)=ji5:=hji5
 obtain rfl:=Option.some.inj H
 go_enter Try.func54,Try.ntmps54
 go_wp2
 go_ret
 exact ⟨by first|rfl|(simp [errW_none,errW_some] <;> rfl)|(simp only [← hji4,← hji5];first|rfl|(simp [errW_none,errW_some] <;> rfl))|(simp [*,errW_none,errW_some] <;> rfl),by repeat (first|(with_reducible first|exact HB.out|apply bAl|apply bDN|apply bD1)|exact HB.out)⟩

/-! ### versalref2_Clip: function 33 -/
def versalref2_Clip.f (a0 : Int) : Option (Int):=(versalref2_Within.f a0 (-2147483647) 2147483647).bind fun t311=>(some t311)
set_option maxHeartbeats 8000000 in
set_option maxRecDepth 100000 in
theorem versalref2_Clip.calls (a0 : Int) (r : Int) (w : World) (h : versalref2_Clip.f a0=some r) :
  Calls Try.prog 33 #[.int .i64 a0] w fun e w'=>e=.returned (.int .i64 r)∧Below w.heap.size w w':=by
 have HB:=amk (Below.refl w.heap.size w)
 have H : ((versalref2_Within.f a0 (-2147483647) 2147483647).bind fun t311=>(some t311))=some r:=h
 clear h
 replace H:=Option.bind_eq_some_iff.mp H
 obtain ⟨t311,A20,H⟩:=H
 replace H : (some t311)=some r:=H
 have A2:=amk A20
 clear A20
 obtain rfl:=Option.some.inj H
 go_enter Try.func33,Try.ntmps33
 go_wp2_with (first|((with_reducible refine gate_callee (f:=54) rfl ?_);refine goesL_ (some 4) rfl rfl Try.func54 (by kernel_rfl) rfl #[.int .i64 a0,.int .i64 (-2147483647),.int .i64 2147483647] rfl (by (try simp only [List.map_toArray,List.map_cons,List.map_nil]);first|done|rfl|(simp only [List.length_drop,List.length_take];rfl)) ?_;(with_reducible refine (versalref2_Within.calls a0 (-2147483647) 2147483647 t311 _ A2.out).mono ?_);rintro e w3 ⟨rfl,hb⟩;refine ⟨_,rfl,?_⟩;have n0_:=amk (below_step (by repeat (first|(with_reducible first|exact HB.out|apply bAl|apply bDN|apply bD1)|exact HB.out)) hb);clear HB;have HB:=n0_;clear n0_;(try clear hb);(try clear hb2);(try clear hk);(try clear hi)))
 go_ret
 exact ⟨by first|rfl|(simp [errW_none,errW_some] <;> rfl)|(simp [*,errW_none,errW_some] <;> rfl),by repeat (first|(with_reducible first|exact HB.out|apply bAl|apply bDN|apply bD1)|exact HB.out)⟩

/-! ### versalref2_Floor: function 55 -/
def versalref2_Floor.f (a0 : Int) (a1 : Int) : Option (Int):=if a1=0 then (none) else (if (Int.tmod a0 a1) < 0 then (some (wrap64 ((wrap64 (Int.tdiv a0 a1)) - 1))) else (some (wrap64 (Int.tdiv a0 a1))))
set_option maxHeartbeats 8000000 in
set_option maxRecDepth 100000 in
theorem versalref2_Floor.calls (a0 : Int) (a1 : Int) (r : Int) (w : World) (h : versalref2_Floor.f a0 a1=some r) :
  Calls Try.prog 55 #[.int .i64 a0,.int .i64 a1] w fun e w'=>e=.returned (.int .i64 r)∧Drawn0 w w':=by
 have H : (if a1=0 then (none) else (if (Int.tmod a0 a1) < 0 then (some (wrap64 ((wrap64 (Int.tdiv a0 a1)) - 1))) else (some (wrap64 (Int.tdiv a0 a1)))))=some r:=h
 clear h
 by_cases c3 : a1=0
 ·rw [if_pos c3] at H
  exact absurd H (by simp)
 ·rw [if_neg c3] at H
  have c3b0 : (a1 == 0)=false:=beq_eq_false_iff_ne.mpr c3
  have c3b1 : (a1 != 0)=true:=bne_iff_ne.mpr c3
  by_cases c4 : (Int.tmod a0 a1) < 0
  ·rw [if_pos c4] at H
   have c4b0 : decide ((Int.tmod a0 a1) < 0)=true:=decide_eq_true c4
   clear c4
   obtain rfl:=Option.some.inj H
   go_enter Try.func55,Try.ntmps55
   go_wp2
   go_ret
   exact ⟨by first|rfl|(simp;done)|(simp [*];done),by repeat (first|exact Drawn0.refl _|apply Drawn0.step)⟩
  ·rw [if_neg c4] at H
   have c4b0 : decide ((Int.tmod a0 a1) < 0)=false:=decide_eq_false c4
   clear c4
   obtain rfl:=Option.some.inj H
   go_enter Try.func55,Try.ntmps55
   go_wp2
   go_ret
   exact ⟨by first|rfl|(simp;done)|(simp [*];done),by repeat (first|exact Drawn0.refl _|apply Drawn0.step)⟩

/-! ### versalref2_Mul: function 34 -/
def versalref2_Mul.f (a0 : Int) (a1 : Int) : Option (Int):=(versalref2_Clip.f a0).bind fun t312=>((versalref2_Clip.f a1).bind fun t313=>((versalref2_Floor.f (wrap64 ((wrap64 (t312 * t313))+32768)) 65536).bind fun t314=>((versalref2_Clip.f t314).bind fun t315=>(some t315))))
set_option maxHeartbeats 8000000 in
set_option maxRecDepth 100000 in
theorem versalref2_Mul.calls (a0 : Int) (a1 : Int) (r : Int) (w : World) (h : versalref2_Mul.f a0 a1=some r) :
  Calls Try.prog 34 #[.int .i64 a0,.int .i64 a1] w fun e w'=>e=.returned (.int .i64 r)∧Below w.heap.size w w':=by
 have HB:=amk (Below.refl w.heap.size w)
 have H : ((versalref2_Clip.f a0).bind fun t312=>((versalref2_Clip.f a1).bind fun t313=>((versalref2_Floor.f (wrap64 ((wrap64 (t312 * t313))+32768)) 65536).bind fun t314=>((versalref2_Clip.f t314).bind fun t315=>(some t315)))))=some r:=h
 clear h
 replace H:=Option.bind_eq_some_iff.mp H
 obtain ⟨t312,A30,H⟩:=H
 replace H : ((versalref2_Clip.f a1).bind fun t313=>((versalref2_Floor.f (wrap64 ((wrap64 (t312 * t313))+32768)) 65536).bind fun t314=>((versalref2_Clip.f t314).bind fun t315=>(some t315))))=some r:=H
 have A3:=amk A30
 clear A30
 replace H:=Option.bind_eq_some_iff.mp H
 obtain ⟨t313,A40,H⟩:=H
 replace H : ((versalref2_Floor.f (wrap64 ((wrap64 (t312 * t313))+32768)) 65536).bind fun t314=>((versalref2_Clip.f t314).bind fun t315=>(some t315)))=some r:=H
 have A4:=amk A40
 clear A40
 replace H:=Option.bind_eq_some_iff.mp H
 obtain ⟨t314,A50,H⟩:=H
 replace H : ((versalref2_Clip.f t314).bind fun t315=>(some t315))=some r:=H
 have A5:=amk A50
 clear A50
 replace H:=Option.bind_eq_some_iff.mp H
 obtain ⟨t315,A60,H⟩:=H
 replace H : (some t315)=some r:=H
 have A6:=amk A60
 clear A60
 obtain rfl:=Option.some.inj H
 go_enter Try.func34,Try.ntmps34
 go_wp2_with (first|((with_reducible refine gate_callee (f:=33) rfl ?_);refine goesL_ (some 6) rfl rfl Try.func33 (by kernel_rfl) rfl #[.int .i64 a0] rfl (by (try simp only [List.map_toArray,List.map_cons,List.map_nil]);first|done|rfl|(simp only [List.length_drop,List.length_take];rfl)) ?_;(with_reducible refine (versalref2_Clip.calls a0 t312 _ A3.out).mono ?_);rintro e w7 ⟨rfl,hb⟩;refine ⟨_,rfl,?_⟩;have n0_:=amk (below_step (by repeat (first|(with_reducible first|exact HB.out|apply bAl|apply bDN|apply bD1)|exact HB.out)) hb);clear HB;have HB:=n0_;clear n0_;(try clear hb);(try clear hb2);(try clear hk);(try clear hi))|((with_reducible refine gate_callee (f:=33) rfl ?_);refine goesL_ (some 8) rfl rfl Try.func33 (by kernel_rfl) rfl #[.int .i64 a1] rfl (by (try simp only [List.map_toArray,List.map_cons,List.map_nil]);first|done|rfl|(simp only [List.length_drop,List.length_take];rfl)) ?_;(with_reducible refine (versalref2_Clip.calls a1 t313 _ A4.out).mono ?_);rintro e w8 ⟨rfl,hb⟩;refine ⟨_,rfl,?_⟩;have n0_:=amk (below_step (by repeat (first|(with_reducible first|exact HB.out|apply bAl|apply bDN|apply bD1)|exact HB.out)) hb);clear HB;have HB:=n0_;clear n0_;(try clear hb);(try clear hb2);(try clear hk);(try clear hi))|((with_reducible refine gate_callee (f:=55) rfl ?_);refine goesL_ (some 11) rfl rfl Try.func55 (by kernel_rfl) rfl #[.int .i64 (wrap64 ((wrap64 (t312 * t313))+32768)),.int .i64 65536] rfl (by (try simp only [List.map_toArray,List.map_cons,List.map_nil]);first|done|rfl|(simp only [List.length_drop,List.length_take];rfl)) ?_;(with_reducible refine (versalref2_Floor.calls (wrap64 ((wrap64 (t312 * t313))+32768)) 65536 t314 _ A5.out).mono ?_);rintro e w' ⟨rfl,⟨nd,rfl⟩⟩;refine ⟨_,rfl,?_⟩)|((with_reducible refine gate_callee (f:=33) rfl ?_);refine goesL_ (some 12) rfl rfl Try.func33 (by kernel_rfl) rfl #[.int .i64 t314] rfl (by (try simp only [List.map_toArray,List.map_cons,List.map_nil]);first|done|rfl|(simp only [List.length_drop,List.length_take];rfl)) ?_;(with_reducible refine (versalref2_Clip.calls t314 t315 _ A6.out).mono ?_);rintro e w9 ⟨rfl,hb⟩;refine ⟨_,rfl,?_⟩;have n0_:=amk (below_step (by repeat (first|(with_reducible first|exact HB.out|apply bAl|apply bDN|apply bD1)|exact HB.out)) hb);clear HB;have HB:=n0_;clear n0_;(try clear hb);(try clear hb2);(try clear hk);(try clear hi)))
 go_ret
 exact ⟨by first|rfl|(simp [errW_none,errW_some] <;> rfl)|(simp [*,errW_none,errW_some] <;> rfl),by repeat (first|(with_reducible first|exact HB.out|apply bAl|apply bDN|apply bD1)|exact HB.out)⟩

/-! ### versalref2_Apply: function 11 -/
def versalref2_Apply.f (a0_0 : Int) (a0_1 : Int) (a0_2 : Int) (a0_3 : Int) (a0_4 : Int) (a0_5 : Int) (a1 : Int) (a2 : Int) : Option (Int × Int):=(versalref2_Mul.f a0_0 a1).bind fun t317=>((versalref2_Mul.f a0_2 a2).bind fun t318=>((versalref2_Clip.f a0_4).bind fun t319=>((versalref2_Clip.f (wrap64 ((wrap64 (t317+t318))+t319))).bind fun t320=>((versalref2_Mul.f a0_1 a1).bind fun t321=>((versalref2_Mul.f a0_3 a2).bind fun t322=>((versalref2_Clip.f a0_5).bind fun t323=>((versalref2_Clip.f (wrap64 ((wrap64 (t321+t322))+t323))).bind fun t324=>(some (t320,t324)))))))))
def versalref2_Apply.T1 : Bool × List (List Nat × List Nat):=(true,[([],[]),([0],[0]),([],[]),([1,2],[1,2]),([],[]),([4],[4]),([],[]),([5,6,3],[5,6]),([3,7],[3,7]),([],[]),([9],[9]),([10,7],[10]),([8,11],[8,11]),([12,11],[12]),([],[]),([14],[14]),([],[]),([15,16,13],[15,16]),([],[]),([18],[18]),([],[]),([19,20,17],[19,20]),([17,21],[17,21]),([],[]),([23],[23]),([24,21],[24]),([22,25],[22,25]),([26,25],[26]),([13,27,0,1,2,3,4,5,6,7,8,9,10,11,12,13],[13]),([27,28,0,1,2,3,4,5,6,7,8,9,10,11,12,13,14,15,16,17,18,19,20,21,22,23,24,25,26,27,28],[27])])
def versalref2_Apply.B1 : List Nat:=[0,1,0,7,0,16,0,127,255,0,512,1791,4095,8191,0,16384,0,131071,0,262144,0,2097151,4194303,0,8388608,29360127,67108863,134217727,268435455,536870911]
theorem versalref2_Apply.tab1 : rtab .any (opsOf Try.f11 1)=versalref2_Apply.T1:=by kernel_rfl
theorem versalref2_Apply.bits1 : waitsOk versalref2_Apply.T1.2 versalref2_Apply.B1=true:=by kernel_rfl
set_option maxHeartbeats 8000000 in
set_option maxRecDepth 100000 in
theorem versalref2_Apply.calls (a0_0 : Int) (a0_1 : Int) (a0_2 : Int) (a0_3 : Int) (a0_4 : Int) (a0_5 : Int) (a1 : Int) (a2 : Int) (r1 : Int) (r2 : Int) (w : World) (h : versalref2_Apply.f a0_0 a0_1 a0_2 a0_3 a0_4 a0_5 a1 a2=some (r1,r2)) :
  Calls Try.prog 11 #[.agg #[.int .i64 a0_0,.int .i64 a0_1,.int .i64 a0_2,.int .i64 a0_3,.int .i64 a0_4,.int .i64 a0_5],.int .i64 a1,.int .i64 a2] w fun e w'=>e=.returned (.tuple #[.int .i64 r1,.int .i64 r2])∧Below w.heap.size w w':=by
 have hu26:=Try.underlying26
 have HB:=amk (Below.refl w.heap.size w)
 have H : ((versalref2_Mul.f a0_0 a1).bind fun t317=>((versalref2_Mul.f a0_2 a2).bind fun t318=>((versalref2_Clip.f a0_4).bind fun t319=>((versalref2_Clip.f (wrap64 ((wrap64 (t317+t318))+t319))).bind fun t320=>((versalref2_Mul.f a0_1 a1).bind fun t321=>((versalref2_Mul.f a0_3 a2).bind fun t322=>((versalref2_Clip.f a0_5).bind fun t323=>((versalref2_Clip.f (wrap64 ((wrap64 (t321+t322))+t323))).bind fun t324=>(some (t320,t324))))))))))=some (r1,r2):=h
 clear h
 replace H:=Option.bind_eq_some_iff.mp H
 obtain ⟨t317,A40,H⟩:=H
 replace H : ((versalref2_Mul.f a0_2 a2).bind fun t318=>((versalref2_Clip.f a0_4).bind fun t319=>((versalref2_Clip.f (wrap64 ((wrap64 (t317+t318))+t319))).bind fun t320=>((versalref2_Mul.f a0_1 a1).bind fun t321=>((versalref2_Mul.f a0_3 a2).bind fun t322=>((versalref2_Clip.f a0_5).bind fun t323=>((versalref2_Clip.f (wrap64 ((wrap64 (t321+t322))+t323))).bind fun t324=>(some (t320,t324)))))))))=some (r1,r2):=H
 have A4:=amk A40
 clear A40
 replace H:=Option.bind_eq_some_iff.mp H
 obtain ⟨t318,A50,H⟩:=H
 replace H : ((versalref2_Clip.f a0_4).bind fun t319=>((versalref2_Clip.f (wrap64 ((wrap64 (t317+t318))+t319))).bind fun t320=>((versalref2_Mul.f a0_1 a1).bind fun t321=>((versalref2_Mul.f a0_3 a2).bind fun t322=>((versalref2_Clip.f a0_5).bind fun t323=>((versalref2_Clip.f (wrap64 ((wrap64 (t321+t322))+t323))).bind fun t324=>(some (t320,t324))))))))=some (r1,r2):=H
 have A5:=amk A50
 clear A50
 replace H:=Option.bind_eq_some_iff.mp H
 obtain ⟨t319,A60,H⟩:=H
 replace H : ((versalref2_Clip.f (wrap64 ((wrap64 (t317+t318))+t319))).bind fun t320=>((versalref2_Mul.f a0_1 a1).bind fun t321=>((versalref2_Mul.f a0_3 a2).bind fun t322=>((versalref2_Clip.f a0_5).bind fun t323=>((versalref2_Clip.f (wrap64 ((wrap64 (t321+t322))+t323))).bind fun t324=>(some (t320,t324)))))))=some (r1,r2):=H
 have A6:=amk A60
 clear A60
 replace H:=Option.bind_eq_some_iff.mp H
 obtain ⟨t320,A70,H⟩:=H
 replace H : ((versalref2_Mul.f a0_1 a1).bind fun t321=>((versalref2_Mul.f a0_3 a2).bind fun t322=>((versalref2_Clip.f a0_5).bind fun t323=>((versalref2_Clip.f (wrap64 ((wrap64 (t321+t322))+t323))).bind fun t324=>(some (t320,t324))))))=some (r1,r2):=H
 have A7:=amk A70
 clear A70
 replace H:=Option.bind_eq_some_iff.mp H
 obtain ⟨t321,A80,H⟩:=H
 replace H : ((versalref2_Mul.f a0_3 a2).bind fun t322=>((versalref2_Clip.f a0_5).bind fun t323=>((versalref2_Clip.f (wrap64 ((wrap64 (t321+t322))+t323))).bind fun t324=>(some (t320,t324)))))=some (r1,r2):=H
 have A8:=amk A80
 clear A80
 replace H:=Option.bind_eq_some_iff.mp H
 obtain ⟨t322,A90,H⟩:=H
 replace H : ((versalref2_Clip.f a0_5).bind fun t323=>((versalref2_Clip.f (wrap64 ((wrap64 (t321+t322))+t323))).bind fun t324=>(some (t320,t324))))=some (r1,r2):=H
 have A9:=amk A90
 clear A90
 replace H:=Option.bind_eq_some_iff.mp H
 obtain ⟨t323,A100,H⟩:=H
 replace H : ((versalref2_Clip.f (wrap64 ((wrap64 (t321+t322))+t323))).bind fun t324=>(some (t320,t324)))=some (r1,r2):=H
 have A10:=amk A100
 clear A100
 replace H:=Option.bind_eq_some_iff.mp H
 obtain ⟨t324,A110,H⟩:=H
 replace H : (some (t320,t324))=some (r1,r2):=H
 have A11:=amk A110
 clear A110
 simp only [Option.some.injEq,Prod.mk.injEq] at H
 obtain ⟨rfl,rfl⟩:=H
 go_enter Try.func11,Try.ntmps11
 try go_wp2_with (first|((with_reducible refine gate_dst (N:=3) rfl ?_);refine box_event ?hg (N:=3) ?hd (cs:=#[.int .i64 a0_0,.int .i64 a0_1,.int .i64 a0_2,.int .i64 a0_3,.int .i64 a0_4,.int .i64 a0_5]) (t:=26) ?hr ?_;(case hd=>rfl);(case hg=>rfl);(case hr=>first|(go_simp;done)|(go_simp;rfl));intro gb316 hg w12 hbox hb;have n0_:=amk (below_step (by repeat (first|(with_reducible first|exact HB.out|apply bAl|apply bDN|apply bD1)|exact HB.out)) hb);have n1_:=amk (hbox);have n2_:=amk ((by rw [hg];exact (below_size (by repeat (first|(with_reducible first|exact HB.out|apply bAl|apply bDN|apply bD1)|exact HB.out))) : w.heap.size≤gb316));have n3_:=amk ((by rw [hg];exact (below_size (by repeat (first|(with_reducible first|exact HB.out|apply bAl|apply bDN|apply bD1)|exact HB.out))) : w.heap.size≤gb316));clear HB;have HB:=n0_;have BK316:=n1_;have GW316:=n2_;have GE316:=n3_;clear n0_ n1_ n2_ n3_;clear hb hbox hg))
 have n0_:=amk (blk_drew BK316.out)
 have n1_:=amk (bD1 HB.out)
 clear BK316
 clear HB
 have BK316:=n0_
 have HB:=n1_
 clear n0_ n1_
 refine start_ (n:=30) (S:=fun w'=>w'.cell? ⟨gb316,0,none⟩=some (.int .i64 a0_0)∧w'.cell? ⟨gb316,1,none⟩=some (.int .i64 a0_1)∧w'.cell? ⟨gb316,2,none⟩=some (.int .i64 a0_2)∧w'.cell? ⟨gb316,3,none⟩=some (.int .i64 a0_3)∧w'.cell? ⟨gb316,4,none⟩=some (.int .i64 a0_4)∧w'.cell? ⟨gb316,5,none⟩=some (.int .i64 a0_5)) (ds:=[]) #[false,false,false,false,false,false,false,false,false,false,false,false,false,false,false,false,false,false,false,false,false,false,false,false,false,false,false,false,false,false] (by kernel_rfl) rfl rfl ⟨(blk_cell BK316.out 0).trans rfl,(blk_cell BK316.out 1).trans rfl,(blk_cell BK316.out 2).trans rfl,(blk_cell BK316.out 3).trans rfl,(blk_cell BK316.out 4).trans rfl,(blk_cell BK316.out 5).trans rfl⟩ (fun hHeld=>?_);refine with_tabW versalref2_Apply.tab1 versalref2_Apply.bits1 (fun HT_ HW_=>?_)
 generalize w12.drew=w13 at BK316 HB hHeld ⊢
 refine pure_ (i:=0) (N:=some 8) (v:=?_) (a':=?_) #[true,false,false,false,false,false,false,false,false,false,false,false,false,false,false,false,false,false,false,false,false,false,false,false,false,false,false,false,false,false] rfl rfl (any_of HT_.out (by kernel_rfl)) (fun _ _ _ h=>h) (Or.inl ⟨by rfl,?_⟩) ?_ ?_
 rotate_left
 ·intro w'
  go_simp
  with_reducible rfl
 rotate_left
 ·simp only [Act.put,sTA,sCZ,sCS,i64_w,i32_w]
  rfl
 refine pure_ (i:=2) (N:=some 10) (v:=?_) (a':=?_) #[true,false,true,false,false,false,false,false,false,false,false,false,false,false,false,false,false,false,false,false,false,false,false,false,false,false,false,false,false,false] rfl rfl (any_of HT_.out (by kernel_rfl)) (fun _ _ _ h=>h) (Or.inl ⟨by rfl,?_⟩) ?_ ?_
 rotate_left
 ·intro w'
  go_simp
  with_reducible rfl
 rotate_left
 ·simp only [Act.put,sTA,sCZ,sCS,i64_w,i32_w]
  rfl
 refine pure_ (i:=4) (N:=some 12) (v:=?_) (a':=?_) #[true,false,true,false,true,false,false,false,false,false,false,false,false,false,false,false,false,false,false,false,false,false,false,false,false,false,false,false,false,false] rfl rfl (any_of HT_.out (by kernel_rfl)) (fun _ _ _ h=>h) (Or.inl ⟨by rfl,?_⟩) ?_ ?_
 rotate_left
 ·intro w'
  go_simp
  with_reducible rfl
 rotate_left
 ·simp only [Act.put,sTA,sCZ,sCS,i64_w,i32_w]
  rfl
 refine pure_ (i:=6) (N:=some 14) (v:=?_) (a':=?_) #[true,false,true,false,true,false,true,false,false,false,false,false,false,false,false,false,false,false,false,false,false,false,false,false,false,false,false,false,false,false] rfl rfl (any_of HT_.out (by kernel_rfl)) (fun _ _ _ h=>h) (Or.inl ⟨by rfl,?_⟩) ?_ ?_
 rotate_left
 ·intro w'
  go_simp
  with_reducible rfl
 rotate_left
 ·simp only [Act.put,sTA,sCZ,sCS,i64_w,i32_w]
  rfl
 refine pure_ (i:=9) (N:=some 17) (v:=?_) (a':=?_) #[true,false,true,false,true,false,true,false,false,true,false,false,false,false,false,false,false,false,false,false,false,false,false,false,false,false,false,false,false,false] rfl rfl (any_of HT_.out (by kernel_rfl)) (fun _ _ _ h=>h) (Or.inl ⟨by rfl,?_⟩) ?_ ?_
 rotate_left
 ·intro w'
  go_simp
  with_reducible rfl
 rotate_left
 ·simp only [Act.put,sTA,sCZ,sCS,i64_w,i32_w]
  rfl
 refine pure_ (i:=14) (N:=some 22) (v:=?_) (a':=?_) #[true,false,true,false,true,false,true,false,false,true,false,false,false,false,true,false,false,false,false,false,false,false,false,false,false,false,false,false,false,false] rfl rfl (any_of HT_.out (by kernel_rfl)) (fun _ _ _ h=>h) (Or.inl ⟨by rfl,?_⟩) ?_ ?_
 rotate_left
 ·intro w'
  go_simp
  with_reducible rfl
 rotate_left
 ·simp only [Act.put,sTA,sCZ,sCS,i64_w,i32_w]
  rfl
 refine pure_ (i:=16) (N:=some 24) (v:=?_) (a':=?_) #[true,false,true,false,true,false,true,false,false,true,false,false,false,false,true,false,true,false,false,false,false,false,false,false,false,false,false,false,false,false] rfl rfl (any_of HT_.out (by kernel_rfl)) (fun _ _ _ h=>h) (Or.inl ⟨by rfl,?_⟩) ?_ ?_
 rotate_left
 ·intro w'
  go_simp
  with_reducible rfl
 rotate_left
 ·simp only [Act.put,sTA,sCZ,sCS,i64_w,i32_w]
  rfl
 refine pure_ (i:=18) (N:=some 26) (v:=?_) (a':=?_) #[true,false,true,false,true,false,true,false,false,true,false,false,false,false,true,false,true,false,true,false,false,false,false,false,false,false,false,false,false,false] rfl rfl (any_of HT_.out (by kernel_rfl)) (fun _ _ _ h=>h) (Or.inl ⟨by rfl,?_⟩) ?_ ?_
 rotate_left
 ·intro w'
  go_simp
  with_reducible rfl
 rotate_left
 ·simp only [Act.put,sTA,sCZ,sCS,i64_w,i32_w]
  rfl
 refine pure_ (i:=20) (N:=some 28) (v:=?_) (a':=?_) #[true,false,true,false,true,false,true,false,false,true,false,false,false,false,true,false,true,false,true,false,true,false,false,false,false,false,false,false,false,false] rfl rfl (any_of HT_.out (by kernel_rfl)) (fun _ _ _ h=>h) (Or.inl ⟨by rfl,?_⟩) ?_ ?_
 rotate_left
 ·intro w'
  go_simp
  with_reducible rfl
 rotate_left
 ·simp only [Act.put,sTA,sCZ,sCS,i64_w,i32_w]
  rfl
 refine pure_ (i:=23) (N:=some 31) (v:=?_) (a':=?_) #[true,false,true,false,true,false,true,false,false,true,false,false,false,false,true,false,true,false,true,false,true,false,false,true,false,false,false,false,false,false] rfl rfl (any_of HT_.out (by kernel_rfl)) (fun _ _ _ h=>h) (Or.inl ⟨by rfl,?_⟩) ?_ ?_
 rotate_left
 ·intro w'
  go_simp
  with_reducible rfl
 rotate_left
 ·simp only [Act.put,sTA,sCZ,sCS,i64_w,i32_w]
  rfl
 refine take_ (i:=1) (N:=some 9) (v:=?_) (a':=?_) #[true,true,true,false,true,false,true,false,false,true,false,false,false,false,true,false,true,false,true,false,true,false,false,true,false,false,false,false,false,false] rfl rfl (take_ofW HT_.out HW_.out (by kernel_rfl)) (fun _ _ _ h=>h) (Or.inl ⟨by rfl,?_⟩) hHeld ?_ ?_
 rotate_left
 ·rintro w' ⟨s0,s1,s2,s3,s4,s5⟩
  go_simp
  with_reducible rfl
 rotate_left
 ·simp only [Act.put,sTA,sCZ,sCS,i64_w,i32_w]
  rfl
 refine take_ (i:=5) (N:=some 13) (v:=?_) (a':=?_) #[true,true,true,false,true,true,true,false,false,true,false,false,false,false,true,false,true,false,true,false,true,false,false,true,false,false,false,false,false,false] rfl rfl (take_ofW HT_.out HW_.out (by kernel_rfl)) (fun _ _ _ h=>h) (Or.inl ⟨by rfl,?_⟩) hHeld ?_ ?_
 rotate_left
 ·rintro w' ⟨s0,s1,s2,s3,s4,s5⟩
  go_simp
  with_reducible rfl
 rotate_left
 ·simp only [Act.put,sTA,sCZ,sCS,i64_w,i32_w]
  rfl
 refine take_ (i:=10) (N:=some 18) (v:=?_) (a':=?_) #[true,true,true,false,true,true,true,false,false,true,true,false,false,false,true,false,true,false,true,false,true,false,false,true,false,false,false,false,false,false] rfl rfl (take_ofW HT_.out HW_.out (by kernel_rfl)) (fun _ _ _ h=>h) (Or.inl ⟨by rfl,?_⟩) hHeld ?_ ?_
 rotate_left
 ·rintro w' ⟨s0,s1,s2,s3,s4,s5⟩
  go_simp
  with_reducible rfl
 rotate_left
 ·simp only [Act.put,sTA,sCZ,sCS,i64_w,i32_w]
  rfl
 refine take_ (i:=15) (N:=some 23) (v:=?_) (a':=?_) #[true,true,true,false,true,true,true,false,false,true,true,false,false,false,true,true,true,false,true,false,true,false,false,true,false,false,false,false,false,false] rfl rfl (take_ofW HT_.out HW_.out (by kernel_rfl)) (fun _ _ _ h=>h) (Or.inl ⟨by rfl,?_⟩) hHeld ?_ ?_
 rotate_left
 ·rintro w' ⟨s0,s1,s2,s3,s4,s5⟩
  go_simp
  with_reducible rfl
 rotate_left
 ·simp only [Act.put,sTA,sCZ,sCS,i64_w,i32_w]
  rfl
 refine take_ (i:=19) (N:=some 27) (v:=?_) (a':=?_) #[true,true,true,false,true,true,true,false,false,true,true,false,false,false,true,true,true,false,true,true,true,false,false,true,false,false,false,false,false,false] rfl rfl (take_ofW HT_.out HW_.out (by kernel_rfl)) (fun _ _ _ h=>h) (Or.inl ⟨by rfl,?_⟩) hHeld ?_ ?_
 rotate_left
 ·rintro w' ⟨s0,s1,s2,s3,s4,s5⟩
  go_simp
  with_reducible rfl
 rotate_left
 ·simp only [Act.put,sTA,sCZ,sCS,i64_w,i32_w]
  rfl
 refine take_ (i:=24) (N:=some 32) (v:=?_) (a':=?_) #[true,true,true,false,true,true,true,false,false,true,true,false,false,false,true,true,true,false,true,true,true,false,false,true,true,false,false,false,false,false] rfl rfl (take_ofW HT_.out HW_.out (by kernel_rfl)) (fun _ _ _ h=>h) (Or.inl ⟨by rfl,?_⟩) hHeld ?_ ?_
 rotate_left
 ·rintro w' ⟨s0,s1,s2,s3,s4,s5⟩
  go_simp
  with_reducible rfl
 rotate_left
 ·simp only [Act.put,sTA,sCZ,sCS,i64_w,i32_w]
  rfl
 refine one_ (i:=3) (N:=some 11) #[true,true,true,true,true,true,true,false,false,true,true,false,false,false,true,true,true,false,true,true,true,false,false,true,true,false,false,false,false,false] rfl rfl (one_of HT_.out (by kernel_rfl)) (by decide) (fun K hK=>?_)
 refine goes_ Try.func34 (by kernel_rfl) rfl #[.int .i64 a0_0,.int .i64 a1] (by rfl) rfl rfl (by (try simp only [List.map_toArray,List.map_cons,List.map_nil]);first|done|rfl|(simp only [List.length_drop,List.length_take];rfl)) ?_
 with_reducible refine (versalref2_Mul.calls a0_0 a1 t317 _ A4.out).mono ?_
 rintro e w14 ⟨rfl,hb⟩
 refine ⟨_,rfl,?_⟩
 have n0_:=amk (blk_below (g:=gb316) (o:=.cells #[.int .i64 a0_0,.int .i64 a0_1,.int .i64 a0_2,.int .i64 a0_3,.int .i64 a0_4,.int .i64 a0_5] 26 (0,0)) (by (with_reducible repeat first|apply kN|apply kD|apply kA);exact BK316.out) hb)
 have n1_:=amk (below_step (by repeat (first|(with_reducible first|exact HB.out|apply bAl|apply bDN|apply bD1|refine bSe ?_ GE316.out)|exact HB.out)) hb)
 clear BK316
 clear HB
 have BK316:=n0_
 have HB:=n1_
 clear n0_ n1_
 (try clear hb)
 (try clear hb2)
 (try clear hk)
 (try clear hi)
 refine hK.out _ _ ⟨(blk_cell BK316.out 0).trans rfl,(blk_cell BK316.out 1).trans rfl,(blk_cell BK316.out 2).trans rfl,(blk_cell BK316.out 3).trans rfl,(blk_cell BK316.out 4).trans rfl,(blk_cell BK316.out 5).trans rfl⟩ (fun hHeld=>?_)
 clear hK K
 refine norm_ (a':=?_) ?_ ?_
 rotate_left
 ·show Act.put _ (some 11) _=_
  simp only [Act.put,sTA,sCZ,sCS,i64_w,i32_w]
  rfl
 refine one_ (i:=7) (N:=some 15) #[true,true,true,true,true,true,true,true,false,true,true,false,false,false,true,true,true,false,true,true,true,false,false,true,true,false,false,false,false,false] rfl rfl (one_of HT_.out (by kernel_rfl)) (by decide) (fun K hK=>?_)
 refine goes_ Try.func34 (by kernel_rfl) rfl #[.int .i64 a0_2,.int .i64 a2] (by rfl) rfl rfl (by (try simp only [List.map_toArray,List.map_cons,List.map_nil]);first|done|rfl|(simp only [List.length_drop,List.length_take];rfl)) ?_
 with_reducible refine (versalref2_Mul.calls a0_2 a2 t318 _ A5.out).mono ?_
 rintro e w15 ⟨rfl,hb⟩
 refine ⟨_,rfl,?_⟩
 have n0_:=amk (blk_below (g:=gb316) (o:=.cells #[.int .i64 a0_0,.int .i64 a0_1,.int .i64 a0_2,.int .i64 a0_3,.int .i64 a0_4,.int .i64 a0_5] 26 (0,0)) (by (with_reducible repeat first|apply kN|apply kD|apply kA);exact BK316.out) hb)
 have n1_:=amk (below_step (by repeat (first|(with_reducible first|exact HB.out|apply bAl|apply bDN|apply bD1|refine bSe ?_ GE316.out)|exact HB.out)) hb)
 clear BK316
 clear HB
 have BK316:=n0_
 have HB:=n1_
 clear n0_ n1_
 (try clear hb)
 (try clear hb2)
 (try clear hk)
 (try clear hi)
 refine hK.out _ _ ⟨(blk_cell BK316.out 0).trans rfl,(blk_cell BK316.out 1).trans rfl,(blk_cell BK316.out 2).trans rfl,(blk_cell BK316.out 3).trans rfl,(blk_cell BK316.out 4).trans rfl,(blk_cell BK316.out 5).trans rfl⟩ (fun hHeld=>?_)
 clear hK K
 refine norm_ (a':=?_) ?_ ?_
 rotate_left
 ·show Act.put _ (some 15) _=_
  simp only [Act.put,sTA,sCZ,sCS,i64_w,i32_w]
  rfl
 refine pure_ (i:=8) (N:=some 16) (v:=?_) (a':=?_) #[true,true,true,true,true,true,true,true,true,true,true,false,false,false,true,true,true,false,true,true,true,false,false,true,true,false,false,false,false,false] rfl rfl (any_of HT_.out (by kernel_rfl)) (fun _ _ _ h=>h) (Or.inl ⟨by rfl,?_⟩) ?_ ?_
 rotate_left
 ·intro w'
  go_simp
  with_reducible rfl
 rotate_left
 ·simp only [Act.put,sTA,sCZ,sCS,i64_w,i32_w]
  rfl
 refine one_ (i:=11) (N:=some 19) #[true,true,true,true,true,true,true,true,true,true,true,true,false,false,true,true,true,false,true,true,true,false,false,true,true,false,false,false,false,false] rfl rfl (one_of HT_.out (by kernel_rfl)) (by decide) (fun K hK=>?_)
 refine goes_ Try.func33 (by kernel_rfl) rfl #[.int .i64 a0_4] (by rfl) rfl rfl (by (try simp only [List.map_toArray,List.map_cons,List.map_nil]);first|done|rfl|(simp only [List.length_drop,List.length_take];rfl)) ?_
 with_reducible refine (versalref2_Clip.calls a0_4 t319 _ A6.out).mono ?_
 rintro e w16 ⟨rfl,hb⟩
 refine ⟨_,rfl,?_⟩
 have n0_:=amk (blk_below (g:=gb316) (o:=.cells #[.int .i64 a0_0,.int .i64 a0_1,.int .i64 a0_2,.int .i64 a0_3,.int .i64 a0_4,.int .i64 a0_5] 26 (0,0)) (by (with_reducible repeat first|apply kN|apply kD|apply kA);exact BK316.out) hb)
 have n1_:=amk (below_step (by repeat (first|(with_reducible first|exact HB.out|apply bAl|apply bDN|apply bD1|refine bSe ?_ GE316.out)|exact HB.out)) hb)
 clear BK316
 clear HB
 have BK316:=n0_
 have HB:=n1_
 clear n0_ n1_
 (try clear hb)
 (try clear hb2)
 (try clear hk)
 (try clear hi)
 refine hK.out _ _ ⟨(blk_cell BK316.out 0).trans rfl,(blk_cell BK316.out 1).trans rfl,(blk_cell BK316.out 2).trans rfl,(blk_cell BK316.out 3).trans rfl,(blk_cell BK316.out 4).trans rfl,(blk_cell BK316.out 5).trans rfl⟩ (fun hHeld=>?_)
 clear hK K
 refine norm_ (a':=?_) ?_ ?_
 rotate_left
 ·show Act.put _ (some 19) _=_
  simp only [Act.put,sTA,sCZ,sCS,i64_w,i32_w]
  rfl
 refine pure_ (i:=12) (N:=some 20) (v:=?_) (a':=?_) #[true,true,true,true,true,true,true,true,true,true,true,true,true,false,true,true,true,false,true,true,true,false,false,true,true,false,false,false,false,false] rfl rfl (any_of HT_.out (by kernel_rfl)) (fun _ _ _ h=>h) (Or.inl ⟨by rfl,?_⟩) ?_ ?_
 rotate_left
 ·intro w'
  go_simp
  with_reducible rfl
 rotate_left
 ·simp only [Act.put,sTA,sCZ,sCS,i64_w,i32_w]
  rfl
 refine one_ (i:=13) (N:=some 21) #[true,true,true,true,true,true,true,true,true,true,true,true,true,true,true,true,true,false,true,true,true,false,false,true,true,false,false,false,false,false] rfl rfl (one_of HT_.out (by kernel_rfl)) (by decide) (fun K hK=>?_)
 refine goes_ Try.func33 (by kernel_rfl) rfl #[.int .i64 (wrap64 ((wrap64 (t317+t318))+t319))] (by rfl) rfl rfl (by (try simp only [List.map_toArray,List.map_cons,List.map_nil]);first|done|rfl|(simp only [List.length_drop,List.length_take];rfl)) ?_
 with_reducible refine (versalref2_Clip.calls (wrap64 ((wrap64 (t317+t318))+t319)) t320 _ A7.out).mono ?_
 rintro e w17 ⟨rfl,hb⟩
 refine ⟨_,rfl,?_⟩
 have n0_:=amk (blk_below (g:=gb316) (o:=.cells #[.int .i64 a0_0,.int .i64 a0_1,.int .i64 a0_2,.int .i64 a0_3,.int .i64 a0_4,.int .i64 a0_5] 26 (0,0)) (by (with_reducible repeat first|apply kN|apply kD|apply kA);exact BK316.out) hb)
 have n1_:=amk (below_step (by repeat (first|(with_reducible first|exact HB.out|apply bAl|apply bDN|apply bD1|refine bSe ?_ GE316.out)|exact HB.out)) hb)
 clear BK316
 clear HB
 have BK316:=n0_
 have HB:=n1_
 clear n0_ n1_
 (try clear hb)
 (try clear hb2)
 (try clear hk)
 (try clear hi)
 refine hK.out _ _ ⟨(blk_cell BK316.out 0).trans rfl,(blk_cell BK316.out 1).trans rfl,(blk_cell BK316.out 2).trans rfl,(blk_cell BK316.out 3).trans rfl,(blk_cell BK316.out 4).trans rfl,(blk_cell BK316.out 5).trans rfl⟩ (fun hHeld=>?_)
 clear hK K
 refine norm_ (a':=?_) ?_ ?_
 rotate_left
 ·show Act.put _ (some 21) _=_
  simp only [Act.put,sTA,sCZ,sCS,i64_w,i32_w]
  rfl
 refine one_ (i:=17) (N:=some 25) #[true,true,true,true,true,true,true,true,true,true,true,true,true,true,true,true,true,true,true,true,true,false,false,true,true,false,false,false,false,false] rfl rfl (one_of HT_.out (by kernel_rfl)) (by decide) (fun K hK=>?_)
 refine goes_ Try.func34 (by kernel_rfl) rfl #[.int .i64 a0_1,.int .i64 a1] (by rfl) rfl rfl (by (try simp only [List.map_toArray,List.map_cons,List.map_nil]);first|done|rfl|(simp only [List.length_drop,List.length_take];rfl)) ?_
 with_reducible refine (versalref2_Mul.calls a0_1 a1 t321 _ A8.out).mono ?_
 rintro e w18 ⟨rfl,hb⟩
 refine ⟨_,rfl,?_⟩
 have n0_:=amk (blk_below (g:=gb316) (o:=.cells #[.int .i64 a0_0,.int .i64 a0_1,.int .i64 a0_2,.int .i64 a0_3,.int .i64 a0_4,.int .i64 a0_5] 26 (0,0)) (by (with_reducible repeat first|apply kN|apply kD|apply kA);exact BK316.out) hb)
 have n1_:=amk (below_step (by repeat (first|(with_reducible first|exact HB.out|apply bAl|apply bDN|apply bD1|refine bSe ?_ GE316.out)|exact HB.out)) hb)
 clear BK316
 clear HB
 have BK316:=n0_
 have HB:=n1_
 clear n0_ n1_
 (try clear hb)
 (try clear hb2)
 (try clear hk)
 (try clear hi)
 refine hK.out _ _ ⟨(blk_cell BK316.out 0).trans rfl,(blk_cell BK316.out 1).trans rfl,(blk_cell BK316.out 2).trans rfl,(blk_cell BK316.out 3).trans rfl,(blk_cell BK316.out 4).trans rfl,(blk_cell BK316.out 5).trans rfl⟩ (fun hHeld=>?_)
 clear hK K
 refine norm_ (a':=?_) ?_ ?_
 rotate_left
 ·show Act.put _ (some 25) _=_
  simp only [Act.put,sTA,sCZ,sCS,i64_w,i32_w]
  rfl
 refine one_ (i:=21) (N:=some 29) #[true,true,true,true,true,true,true,true,true,true,true,true,true,true,true,true,true,true,true,true,true,true,false,true,true,false,false,false,false,false] rfl rfl (one_of HT_.out (by kernel_rfl)) (by decide) (fun K hK=>?_)
 refine goes_ Try.func34 (by kernel_rfl) rfl #[.int .i64 a0_3,.int .i64 a2] (by rfl) rfl rfl (by (try simp only [List.map_toArray,List.map_cons,List.map_nil]);first|done|rfl|(simp only [List.length_drop,List.length_take];rfl)) ?_
 with_reducible refine (versalref2_Mul.calls a0_3 a2 t322 _ A9.out).mono ?_
 rintro e w19 ⟨rfl,hb⟩
 refine ⟨_,rfl,?_⟩
 have n0_:=amk (blk_below (g:=gb316) (o:=.cells #[.int .i64 a0_0,.int .i64 a0_1,.int .i64 a0_2,.int .i64 a0_3,.int .i64 a0_4,.int .i64 a0_5] 26 (0,0)) (by (with_reducible repeat first|apply kN|apply kD|apply kA);exact BK316.out) hb)
 have n1_:=amk (below_step (by repeat (first|(with_reducible first|exact HB.out|apply bAl|apply bDN|apply bD1|refine bSe ?_ GE316.out)|exact HB.out)) hb)
 clear BK316
 clear HB
 have BK316:=n0_
 have HB:=n1_
 clear n0_ n1_
 (try clear hb)
 (try clear hb2)
 (try clear hk)
 (try clear hi)
 refine hK.out _ _ ⟨(blk_cell BK316.out 0).trans rfl,(blk_cell BK316.out 1).trans rfl,(blk_cell BK316.out 2).trans rfl,(blk_cell BK316.out 3).trans rfl,(blk_cell BK316.out 4).trans rfl,(blk_cell BK316.out 5).trans rfl⟩ (fun hHeld=>?_)
 clear hK K
 refine norm_ (a':=?_) ?_ ?_
 rotate_left
 ·show Act.put _ (some 29) _=_
  simp only [Act.put,sTA,sCZ,sCS,i64_w,i32_w]
  rfl
 refine pure_ (i:=22) (N:=some 30) (v:=?_) (a':=?_) #[true,true,true,true,true,true,true,true,true,true,true,true,true,true,true,true,true,true,true,true,true,true,true,true,true,false,false,false,false,false] rfl rfl (any_of HT_.out (by kernel_rfl)) (fun _ _ _ h=>h) (Or.inl ⟨by rfl,?_⟩) ?_ ?_
 rotate_left
 ·intro w'
  go_simp
  with_reducible rfl
 rotate_left
 ·simp only [Act.put,sTA,sCZ,sCS,i64_w,i32_w]
  rfl
 refine one_ (i:=25) (N:=some 33) #[true,true,true,true,true,true,true,true,true,true,true,true,true,true,true,true,true,true,true,true,true,true,true,true,true,true,false,false,false,false] rfl rfl (one_of HT_.out (by kernel_rfl)) (by decide) (fun K hK=>?_)
 refine goes_ Try.func33 (by kernel_rfl) rfl #[.int .i64 a0_5] (by rfl) rfl rfl (by (try simp only [List.map_toArray,List.map_cons,List.map_nil]);first|done|rfl|(simp only [List.length_drop,List.length_take];rfl)) ?_
 with_reducible refine (versalref2_Clip.calls a0_5 t323 _ A10.out).mono ?_
 rintro e w20 ⟨rfl,hb⟩
 refine ⟨_,rfl,?_⟩
 have n0_:=amk (blk_below (g:=gb316) (o:=.cells #[.int .i64 a0_0,.int .i64 a0_1,.int .i64 a0_2,.int .i64 a0_3,.int .i64 a0_4,.int .i64 a0_5] 26 (0,0)) (by (with_reducible repeat first|apply kN|apply kD|apply kA);exact BK316.out) hb)
 have n1_:=amk (below_step (by repeat (first|(with_reducible first|exact HB.out|apply bAl|apply bDN|apply bD1|refine bSe ?_ GE316.out)|exact HB.out)) hb)
 clear BK316
 clear HB
 have BK316:=n0_
 have HB:=n1_
 clear n0_ n1_
 (try clear hb)
 (try clear hb2)
 (try clear hk)
 (try clear hi)
 refine hK.out _ _ ⟨(blk_cell BK316.out 0).trans rfl,(blk_cell BK316.out 1).trans rfl,(blk_cell BK316.out 2).trans rfl,(blk_cell BK316.out 3).trans rfl,(blk_cell BK316.out 4).trans rfl,(blk_cell BK316.out 5).trans rfl⟩ (fun hHeld=>?_)
 clear hK K
 refine norm_ (a':=?_) ?_ ?_
 rotate_left
 ·show Act.put _ (some 33) _=_
  simp only [Act.put,sTA,sCZ,sCS,i64_w,i32_w]
  rfl
 refine pure_ (i:=26) (N:=some 34) (v:=?_) (a':=?_) #[true,true,true,true,true,true,true,true,true,true,true,true,true,true,true,true,true,true,true,true,true,true,true,true,true,true,true,false,false,false] rfl rfl (any_of HT_.out (by kernel_rfl)) (fun _ _ _ h=>h) (Or.inl ⟨by rfl,?_⟩) ?_ ?_
 rotate_left
 ·intro w'
  go_simp
  with_reducible rfl
 rotate_left
 ·simp only [Act.put,sTA,sCZ,sCS,i64_w,i32_w]
  rfl
 refine one_ (i:=27) (N:=some 35) #[true,true,true,true,true,true,true,true,true,true,true,true,true,true,true,true,true,true,true,true,true,true,true,true,true,true,true,true,false,false] rfl rfl (one_of HT_.out (by kernel_rfl)) (by decide) (fun K hK=>?_)
 refine goes_ Try.func33 (by kernel_rfl) rfl #[.int .i64 (wrap64 ((wrap64 (t321+t322))+t323))] (by rfl) rfl rfl (by (try simp only [List.map_toArray,List.map_cons,List.map_nil]);first|done|rfl|(simp only [List.length_drop,List.length_take];rfl)) ?_
 with_reducible refine (versalref2_Clip.calls (wrap64 ((wrap64 (t321+t322))+t323)) t324 _ A11.out).mono ?_
 rintro e w21 ⟨rfl,hb⟩
 refine ⟨_,rfl,?_⟩
 have n0_:=amk (blk_below (g:=gb316) (o:=.cells #[.int .i64 a0_0,.int .i64 a0_1,.int .i64 a0_2,.int .i64 a0_3,.int .i64 a0_4,.int .i64 a0_5] 26 (0,0)) (by (with_reducible repeat first|apply kN|apply kD|apply kA);exact BK316.out) hb)
 have n1_:=amk (below_step (by repeat (first|(with_reducible first|exact HB.out|apply bAl|apply bDN|apply bD1|refine bSe ?_ GE316.out)|exact HB.out)) hb)
 clear BK316
 clear HB
 have BK316:=n0_
 have HB:=n1_
 clear n0_ n1_
 (try clear hb)
 (try clear hb2)
 (try clear hk)
 (try clear hi)
 refine hK.out _ _ ⟨(blk_cell BK316.out 0).trans rfl,(blk_cell BK316.out 1).trans rfl,(blk_cell BK316.out 2).trans rfl,(blk_cell BK316.out 3).trans rfl,(blk_cell BK316.out 4).trans rfl,(blk_cell BK316.out 5).trans rfl⟩ (fun hHeld=>?_)
 clear hK K
 refine norm_ (a':=?_) ?_ ?_
 rotate_left
 ·show Act.put _ (some 35) _=_
  simp only [Act.put,sTA,sCZ,sCS,i64_w,i32_w]
  rfl
 refine pure_ (i:=28) (N:=some 6) (v:=?_) (a':=?_) #[true,true,true,true,true,true,true,true,true,true,true,true,true,true,true,true,true,true,true,true,true,true,true,true,true,true,true,true,true,false] rfl rfl (any_of HT_.out (by kernel_rfl)) (fun _ _ _ h=>h) (Or.inl ⟨by rfl,?_⟩) ?_ ?_
 rotate_left
 ·intro w'
  go_simp
  with_reducible rfl
 rotate_left
 ·simp only [Act.put,sTA,sCZ,sCS,i64_w,i32_w]
  rfl
 refine pure_ (i:=29) (N:=some 7) (v:=?_) (a':=?_) #[true,true,true,true,true,true,true,true,true,true,true,true,true,true,true,true,true,true,true,true,true,true,true,true,true,true,true,true,true,true] rfl rfl (any_of HT_.out (by kernel_rfl)) (fun _ _ _ h=>h) (Or.inl ⟨by rfl,?_⟩) ?_ ?_
 rotate_left
 ·intro w'
  go_simp
  with_reducible rfl
 rotate_left
 ·simp only [Act.put,sTA,sCZ,sCS,i64_w,i32_w]
  rfl
 refine done_ (done_of HT_.out (by kernel_rfl)) ?_
 try go_wp2
 go_ret2
 exact ⟨by first|rfl|(simp [errW_none,errW_some] <;> rfl)|(simp [*,errW_none,errW_some] <;> rfl),by repeat (first|(with_reducible first|exact HB.out|apply bAl|apply bDN|apply bD1|refine bSe ?_ GE316.out)|exact HB.out)⟩

/-! ### versalref2_Whole: function 12 -/
def versalref2_Whole.f (a0 : Int) : Option (Int):=(versalref2_Clip.f a0).bind fun t325=>((versalref2_Clip.f (wrap64 (t325 * 65536))).bind fun t326=>(some t326))
set_option maxHeartbeats 8000000 in
set_option maxRecDepth 100000 in
theorem versalref2_Whole.calls (a0 : Int) (r : Int) (w : World) (h : versalref2_Whole.f a0=some r) :
  Calls Try.prog 12 #[.int .i64 a0] w fun e w'=>e=.returned (.int .i64 r)∧Below w.heap.size w w':=by
 have HB:=amk (Below.refl w.heap.size w)
 have H : ((versalref2_Clip.f a0).bind fun t325=>((versalref2_Clip.f (wrap64 (t325 * 65536))).bind fun t326=>(some t326)))=some r:=h
 clear h
 replace H:=Option.bind_eq_some_iff.mp H
 obtain ⟨t325,A20,H⟩:=H
 replace H : ((versalref2_Clip.f (wrap64 (t325 * 65536))).bind fun t326=>(some t326))=some r:=H
 have A2:=amk A20
 clear A20
 replace H:=Option.bind_eq_some_iff.mp H
 obtain ⟨t326,A30,H⟩:=H
 replace H : (some t326)=some r:=H
 have A3:=amk A30
 clear A30
 obtain rfl:=Option.some.inj H
 go_enter Try.func12,Try.ntmps12
 go_wp2_with (first|((with_reducible refine gate_callee (f:=33) rfl ?_);refine goesL_ (some 4) rfl rfl Try.func33 (by kernel_rfl) rfl #[.int .i64 a0] rfl (by (try simp only [List.map_toArray,List.map_cons,List.map_nil]);first|done|rfl|(simp only [List.length_drop,List.length_take];rfl)) ?_;(with_reducible refine (versalref2_Clip.calls a0 t325 _ A2.out).mono ?_);rintro e w4 ⟨rfl,hb⟩;refine ⟨_,rfl,?_⟩;have n0_:=amk (below_step (by repeat (first|(with_reducible first|exact HB.out|apply bAl|apply bDN|apply bD1)|exact HB.out)) hb);clear HB;have HB:=n0_;clear n0_;(try clear hb);(try clear hb2);(try clear hk);(try clear hi))|((with_reducible refine gate_callee (f:=33) rfl ?_);refine goesL_ (some 6) rfl rfl Try.func33 (by kernel_rfl) rfl #[.int .i64 (wrap64 (t325 * 65536))] rfl (by (try simp only [List.map_toArray,List.map_cons,List.map_nil]);first|done|rfl|(simp only [List.length_drop,List.length_take];rfl)) ?_;(with_reducible refine (versalref2_Clip.calls (wrap64 (t325 * 65536)) t326 _ A3.out).mono ?_);rintro e w5 ⟨rfl,hb⟩;refine ⟨_,rfl,?_⟩;have n0_:=amk (below_step (by repeat (first|(with_reducible first|exact HB.out|apply bAl|apply bDN|apply bD1)|exact HB.out)) hb);clear HB;have HB:=n0_;clear n0_;(try clear hb);(try clear hb2);(try clear hk);(try clear hi)))
 go_ret
 exact ⟨by first|rfl|(simp [errW_none,errW_some] <;> rfl)|(simp [*,errW_none,errW_some] <;> rfl),by repeat (first|(with_reducible first|exact HB.out|apply bAl|apply bDN|apply bD1)|exact HB.out)⟩

end Go.Proofs.Ytjmflccbddjlhaa.PFm
