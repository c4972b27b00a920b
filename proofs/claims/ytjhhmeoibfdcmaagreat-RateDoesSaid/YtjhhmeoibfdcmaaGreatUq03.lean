/- Contracts of field, second part. Contracts of field, third part: weeks. Contracts of field, fourth part: ruled, Check. Contracts of field, fifth part: Check, Periods; and shape.Quarter. A list of numbers that lies in a block of its own. Contracts of shape.Quarter, and what the laws' own examples come to. -/
import Derived.Test.YtjhhmeoibfdcmaaGreatUq01
set_option linter.unusedSimpArgs false
set_option linter.unusedVariables false
set_option maxRecDepth 100000
set_option maxHeartbeats 12800000
namespace Go.Proofs.YtjhhmeoibfdcmaaGreat
open Go.RowKit Qd
theorem many_any (s c:Int) (w:World) :
    Calls Tryz.prog 203 #[.int .i64 s,.int .i64 c] w fun e w'=>e=.returned (.int .i64 (manyP s c))∧w=w':=by
  go_enter Tryz.func203,Tryz.ntmps203
  go_wp2
  all_goals (go_ret;refine ⟨ret_int ?_,rfl⟩;simp_all [manyP];try omega)
theorem fixed_3 (w:World) :
    Calls Tryz.prog 139 #[.int .i64 3] w fun e w'=>e=.returned (.tuple #[.agg #[.string ⟨#[]⟩,.int .i64 3,.int .i64 6,.int .i64 1,.int .i64 1,.int .i64 1,.int .i64 4,.int .i64 5,.int .i64 4,.int .i64 0,.int .i64 12,.int .i64 0,.int .i64 0,.int .i64 0],.bool true])∧Below w.heap.size w w':=by
  go_enter Tryz.func139,Tryz.ntmps139
  go_wp2
  all_goals (go_returns;refine ⟨rfl,?_⟩;go_grown)
theorem fixed_4 (w:World) :
    Calls Tryz.prog 139 #[.int .i64 4] w fun e w'=>e=.returned (.tuple #[.agg #[.string ⟨#[]⟩,.int .i64 4,.int .i64 7,.int .i64 12,.int .i64 0,.int .i64 4,.int .i64 0,.int .i64 0,.int .i64 0,.int .i64 0,.int .i64 12,.int .i64 0,.int .i64 0,.int .i64 0],.bool true])∧Below w.heap.size w w':=by
  go_enter Tryz.func139,Tryz.ntmps139
  go_wp2
  all_goals (go_returns;refine ⟨rfl,?_⟩;go_grown)
theorem fixed_no (k:Int) (h3:(k==3)=false) (h4:(k==4)=false) (w:World) :
    Calls Tryz.prog 139 #[.int .i64 k] w fun e w'=>e=.returned (.tuple #[.agg #[.string ⟨#[]⟩,.int .i64 0,.int .i64 0,.int .i64 0,.int .i64 0,.int .i64 0,.int .i64 0,.int .i64 0,.int .i64 0,.int .i64 0,.int .i64 0,.int .i64 0,.int .i64 0,.int .i64 0],.bool false])∧Below w.heap.size w w':=by
  go_enter Tryz.func139,Tryz.ntmps139
  go_wp2
  all_goals (go_returns;refine ⟨rfl,?_⟩;go_grown)
def patObj:Obj:=.cells #[.int .i64 4,.int .i64 4,.int .i64 5,.int .i64 4,.int .i64 5,.int .i64 4,.int .i64 5,.int .i64 4,.int .i64 4] 22
theorem patterns_any (w:World) :
    Calls Tryz.prog 202 #[] w fun e w'=>e=.returned (.slice (some ⟨w.heap.size,0,none⟩) 3 3)∧w.alloc patObj=w':=by
  go_enter Tryz.func202,Tryz.ntmps202
  go_wp2
  all_goals (go_ret;exact ⟨rfl,rfl⟩)
theorem index_any (B:Nat) (a b c:Int) (w:World) (c0:w.cell? ⟨B,0,none⟩=some (.int .i64 4)) (c1:w.cell? ⟨B,1,none⟩=some (.int .i64 4)) (c2:w.cell? ⟨B,2,none⟩=some (.int .i64 5))
    (c3:w.cell? ⟨B,3,none⟩=some (.int .i64 4)) (c4:w.cell? ⟨B,4,none⟩=some (.int .i64 5)) (c5:w.cell? ⟨B,5,none⟩=some (.int .i64 4))
    (c6:w.cell? ⟨B,6,none⟩=some (.int .i64 5)) (c7:w.cell? ⟨B,7,none⟩=some (.int .i64 4)) (c8:w.cell? ⟨B,8,none⟩=some (.int .i64 4)) (hB:B<w.heap.size) :
    Calls Tryz.prog 230 #[.slice (some ⟨B,0,none⟩) 3 3,.agg #[.int .i64 a,.int .i64 b,.int .i64 c]] w fun e w'=>e=.returned (.int .i64 (patIx a b c))∧Below w.heap.size w w':=by
  go_enter Tryz.func230,Tryz.ntmps230
  go_wp2
  refine wp_loop_rounds 4 ?_
  rw [rounds_succ]
  go_wp2
  go_quiet (fail)
  go_wp2
  · go_ret
    refine ⟨ret_int ?_,by (repeat' exact bel)⟩
    simp_all [patIx]
  · rw [rounds_succ]
    go_wp2
    go_quiet (fail)
    go_wp2
    · go_ret
      refine ⟨ret_int ?_,by (repeat' exact bel)⟩
      simp_all [patIx]
    · rw [rounds_succ]
      go_wp2
      go_quiet (fail)
      go_wp2
      · go_ret
        refine ⟨ret_int ?_,by (repeat' exact bel)⟩
        simp_all [patIx]
      · rw [rounds_succ]
        go_wp2
        go_ret
        refine ⟨ret_int ?_,by (repeat' exact bel)⟩
        simp_all [patIx]
        try omega
def PatAt (w:World) (B:Nat):Prop:=
  w.cell? ⟨B,0,none⟩=some (.int .i64 4)∧w.cell? ⟨B,1,none⟩=some (.int .i64 4)∧w.cell? ⟨B,2,none⟩=some (.int .i64 5) ∧
  w.cell? ⟨B,3,none⟩=some (.int .i64 4)∧w.cell? ⟨B,4,none⟩=some (.int .i64 5)∧w.cell? ⟨B,5,none⟩=some (.int .i64 4) ∧
  w.cell? ⟨B,6,none⟩=some (.int .i64 5)∧w.cell? ⟨B,7,none⟩=some (.int .i64 4)∧w.cell? ⟨B,8,none⟩=some (.int .i64 4)∧B<w.heap.size
theorem patAt_new (w:World):PatAt (w.alloc patObj) w.heap.size:=by
  refine ⟨?_,?_,?_,?_,?_,?_,?_,?_,?_,?_⟩ <;> simp [patObj]
theorem patAt_at (w:World) (B:Nat) (h:B=w.heap.size):PatAt (w.alloc patObj) B:=by rw [h];exact patAt_new w
theorem patAt_alloc {w:World} {B:Nat} (h:PatAt w B) (o:Obj):PatAt (w.alloc o) B:=by
  obtain ⟨c0,c1,c2,c3,c4,c5,c6,c7,c8,hB⟩:=h
  have k:∀ i,(w.alloc o).cell? ⟨B,i,none⟩=w.cell? ⟨B,i,none⟩:=fun i=>World.cell?_alloc_lt w o ⟨B,i,none⟩ hB
  exact ⟨(k 0).trans c0,(k 1).trans c1,(k 2).trans c2,(k 3).trans c3,(k 4).trans c4,(k 5).trans c5,(k 6).trans c6,(k 7).trans c7,(k 8).trans c8,by simp;omega⟩
theorem place_any (B:Nat) (a b c:Int) (w:World) (h:PatAt w B) :
    Calls Tryz.prog 201 #[.slice (some ⟨B,0,none⟩) 3 3,.agg #[.int .i64 a,.int .i64 b,.int .i64 c]] w fun e w'=>e=.returned (.int .i64 (patIx a b c+1))∧Below w.heap.size w w':=by
  have hb:-1≤patIx a b c∧patIx a b c≤2:=by unfold patIx;split <;> (try split) <;> (try split) <;> omega
  have H:=hide h
  clear h
  go_enter Tryz.func201,Tryz.ntmps201
  go_wp2_with fail
  obtain ⟨c0,c1,c2,c3,c4,c5,c6,c7,c8,hB⟩:=patAt_alloc (unhide H) (.cells #[.int .i64 a,.int .i64 b,.int .i64 c] 22)
  refine (index_any B a b c _ c0 c1 c2 c3 c4 c5 c6 c7 c8 hB).mono ?_
  clear c0 c1 c2 c3 c4 c5 c6 c7 c8 hB
  rintro e w1 ⟨rfl,hb1⟩
  go_wp2
  go_ret
  refine ⟨rfl,?_⟩
  exact (((Below.refl _ _).alloc (Nat.le_refl _) _).trans (hb1.mono (by simp)))
end Go.Proofs.YtjhhmeoibfdcmaaGreat
namespace Go.Proofs.YtjhhmeoibfdcmaaGreat
open Go.RowKit Qd
abbrev calV (c:Cal):Value:=.agg #[.string c.name,.int .i64 c.kind,.int .i64 c.day,.int .i64 c.month,.int .i64 c.shift,.int .i64 c.shape,.int .i64 c.p0,.int .i64 c.p1,.int .i64 c.p2,.int .i64 c.cycle,.int .i64 c.extra,.int .i64 c.first,.int .i64 c.last,.int .i64 c.policy]
theorem weeks_2 (c:Cal) (w:World) (hs:c.shape=2) :
    Calls Tryz.prog 140 #[calV c] w fun e w'=>e=.returned (.bool (decide c.weeks))∧Below w.heap.size w w':=by
  obtain ⟨nm,k,d,m,sh,sp,a,b,p,cy,ex,fi,la,po⟩:=c
  obtain rfl:sp=2:=hs
  simp only [calV]
  cases hc':(cy==0)
  all_goals
    go_enter Tryz.func140,Tryz.ntmps140
    go_wp2
    go_quiet (fail)
    go_wp2
    cases hp:(a==0&&(b==0&&p==0))
    all_goals
      go_quiet ((first | (go_at_call 203;first | exact quiet_left (many_any _ _ _) | exact quiet_add_left (many_any _ _ _)) | (go_at_call 83;first | exact quiet_left (between_any _ _ _ _) | exact quiet_add_left (between_any _ _ _ _))))
      go_wp2
      go_ret
      refine ⟨ret_bool ?_,by (repeat' exact bel)⟩
      simp_all [Cal.weeks,weeksP]
theorem weeks_3 (c:Cal) (w:World) (hs:c.shape=3) :
    Calls Tryz.prog 140 #[calV c] w fun e w'=>e=.returned (.bool (decide c.weeks))∧Below w.heap.size w w':=by
  obtain ⟨nm,k,d,m,sh,sp,a,b,p,cy,ex,fi,la,po⟩:=c
  obtain rfl:sp=3:=hs
  simp only [calV]
  cases hc1:(cy==1) <;> cases hc2:(cy==2) <;> cases hc4:(cy==4)
  all_goals first
    | (exfalso;simp_all;done)
    | skip
  all_goals
    go_enter Tryz.func140,Tryz.ntmps140
    go_wp2
    go_quiet (fail)
    go_wp2
    cases hp:(a==0&&(b==0&&p==0))
    all_goals
      go_quiet ((first | (go_at_call 203;first | exact quiet_left (many_any _ _ _) | exact quiet_add_left (many_any _ _ _)) | (go_at_call 83;first | exact quiet_left (between_any _ _ _ _) | exact quiet_add_left (between_any _ _ _ _))))
      go_wp2
      go_ret
      refine ⟨ret_bool ?_,by (repeat' exact bel)⟩
      simp_all [Cal.weeks,weeksP]
theorem weeks_no (c:Cal) (w:World) (h1:(c.shape==1)=false) (h2:(c.shape==2)=false) (h3:(c.shape==3)=false) :
    Calls Tryz.prog 140 #[calV c] w fun e w'=>e=.returned (.bool (decide c.weeks))∧Below w.heap.size w w':=by
  simp only [calV]
  go_enter Tryz.func140,Tryz.ntmps140
  go_wp2
  go_quiet (fail)
  go_wp2
  go_ret
  refine ⟨ret_bool ?_,by (repeat' exact bel)⟩
  simp_all [Cal.weeks,weeksP]
end Go.Proofs.YtjhhmeoibfdcmaaGreat
namespace Go.Proofs.YtjhhmeoibfdcmaaGreat
open Go.RowKit Qd
theorem weeks_1 (c:Cal) (w:World) (hs:c.shape=1) :
    Calls Tryz.prog 140 #[calV c] w fun e w'=>e=.returned (.bool (decide c.weeks))∧Below w.heap.size w w':=by
  obtain ⟨nm,k,d,m,sh,sp,a,b,p,cy,ex,fi,la,po⟩:=c
  obtain rfl:sp=1:=hs
  simp only [calV]
  cases hc':(cy==0)
  all_goals
    go_enter Tryz.func140,Tryz.ntmps140
    go_wp2
    go_quiet (fail)
    go_wp2
    go_region_with (first | (go_at_call 202;refine (patterns_any _).mono ?_;rintro e w' ⟨rfl,rfl⟩) | (go_at_call 201;refine (place_any _ _ _ _ _ (patAt_at _ _ (by simp))).mono ?_;rintro e w1 ⟨rfl,hb1⟩))
    all_goals
      go_simp
      obtain ⟨hc,hf⟩:=bcell hb1
      have hz1:=hb1.size
      simp at hz1
      have hB1 : Below w.heap.size w w1 := by
          refine Below.trans ?_ (hb1.mono (by simp;omega))
          (repeat' exact bel)
      clear hb1
      cases hp:(decide (0<patIx a b p+1))
      all_goals
        go_wp2
        go_quiet ((first | (go_at_call 203;first | exact quiet_left (many_any _ _ _) | exact quiet_add_left (many_any _ _ _)) | (go_at_call 83;first | exact quiet_left (between_any _ _ _ _) | exact quiet_add_left (between_any _ _ _ _))))
        go_wp2
        go_ret
        refine ⟨ret_bool ?_,below_drewN hB1 _⟩
        have hx:=hp
        clear hc hf
        simp_all [Cal.weeks,weeksP,pat_ix] <;> omega
theorem weeks_any (c:Cal) (w:World) :
    Calls Tryz.prog 140 #[calV c] w fun e w'=>e=.returned (.bool (decide c.weeks))∧Below w.heap.size w w':=by
  by_cases h1:c.shape=1
  · exact weeks_1 c w h1
  · by_cases h2:c.shape=2
    · exact weeks_2 c w h2
    · by_cases h3:c.shape=3
      · exact weeks_3 c w h3
      · exact weeks_no c w (beq_eq_false_iff_ne.2 h1) (beq_eq_false_iff_ne.2 h2) (beq_eq_false_iff_ne.2 h3)
theorem weeks_x (nm:ByteArray) (k d m sh sp a b p cy ex fi la po:Int) (w:World) :
    Calls Tryz.prog 140 #[.agg #[.string nm,.int .i64 k,.int .i64 d,.int .i64 m,.int .i64 sh,.int .i64 sp,.int .i64 a,.int .i64 b,.int .i64 p,.int .i64 cy,.int .i64 ex,.int .i64 fi,.int .i64 la,.int .i64 po]] w
      fun e w'=>e=.returned (.bool (decide (Cal.mk nm k d m sh sp a b p cy ex fi la po).weeks))∧Below w.heap.size w w':=weeks_any ⟨nm,k,d,m,sh,sp,a,b,p,cy,ex,fi,la,po⟩ w
end Go.Proofs.YtjhhmeoibfdcmaaGreat
namespace Go.Proofs.YtjhhmeoibfdcmaaGreat
open Go.RowKit Qd
theorem ruled_3 (c:Cal) (w:World) (hs:c.kind=3) :
    Calls Tryz.prog 85 #[calV c] w fun e w'=>e=.returned (.bool (decide c.ruled))∧Below w.heap.size w w':=by
  obtain ⟨nm,k,d,m,sh,sp,a,b,p,cy,ex,fi,la,po⟩:=c
  obtain rfl:k=3:=hs
  simp only [calV]
  go_enter Tryz.func85,Tryz.ntmps85
  go_wp2_with fail
  refine (fixed_3 _).mono ?_
  rintro e w1 ⟨rfl,hb1⟩
  obtain ⟨hc,hf⟩:=bcell hb1
  have hz1:w.heap.size<w1.heap.size:=by have:=hb1.size;simp at this;omega
  have hB1:Below w.heap.size w w1:=by
    refine Below.trans ?_ (hb1.mono (by simp))
    (repeat' exact bel)
  clear hb1
  go_wp2
  go_region
  all_goals go_wp2
  all_goals
    go_ret
    refine ⟨ret_bool ?_,by (repeat' exact bel)⟩
    clear hc hf hB1 hz1
    simp_all [Cal.ruled,Cal.pat0]
  all_goals omega
theorem ruled_4 (c:Cal) (w:World) (hs:c.kind=4) :
    Calls Tryz.prog 85 #[calV c] w fun e w'=>e=.returned (.bool (decide c.ruled))∧Below w.heap.size w w':=by
  obtain ⟨nm,k,d,m,sh,sp,a,b,p,cy,ex,fi,la,po⟩:=c
  obtain rfl:k=4:=hs
  simp only [calV]
  go_enter Tryz.func85,Tryz.ntmps85
  go_wp2_with fail
  refine (fixed_4 _).mono ?_
  rintro e w1 ⟨rfl,hb1⟩
  obtain ⟨hc,hf⟩:=bcell hb1
  have hz1:w.heap.size<w1.heap.size:=by have:=hb1.size;simp at this;omega
  have hB1:Below w.heap.size w w1:=by
    refine Below.trans ?_ (hb1.mono (by simp))
    (repeat' exact bel)
  clear hb1
  go_wp2
  go_region
  all_goals go_wp2
  all_goals
    go_ret
    refine ⟨ret_bool ?_,by (repeat' exact bel)⟩
    clear hc hf hB1 hz1
    simp_all [Cal.ruled,Cal.pat0]
  all_goals omega
theorem ruled_n (c:Cal) (w:World) (h3:(c.kind==3)=false) (h4:(c.kind==4)=false) :
    Calls Tryz.prog 85 #[calV c] w fun e w'=>e=.returned (.bool (decide c.ruled))∧Below w.heap.size w w':=by
  simp only [calV]
  cases hm:(decide (1≤c.month∧c.month≤12))
  case false =>
    go_enter Tryz.func85,Tryz.ntmps85
    go_wp2_with fail
    refine (fixed_no _ h3 h4 _).mono ?_
    rintro e w1 ⟨rfl,hb1⟩
    obtain ⟨hc,hf⟩:=bcell hb1
    have hz1:w.heap.size<w1.heap.size:=by have:=hb1.size;simp at this;omega
    have hB1:Below w.heap.size w w1:=by
      refine Below.trans ?_ (hb1.mono (by simp))
      (repeat' exact bel)
    clear hb1
    go_wp2_with (first | (go_at_call 83;refine (between_any _ _ _ _).mono ?_;rintro e w' ⟨rfl,rfl⟩))
    go_ret
    refine ⟨ret_bool ?_,by (repeat' exact bel)⟩
    clear hc hf hB1 hz1
    simp_all [Cal.ruled]
    try omega
  case true =>
    go_enter Tryz.func85,Tryz.ntmps85
    go_wp2_with fail
    refine (fixed_no _ h3 h4 _).mono ?_
    rintro e w1 ⟨rfl,hb1⟩
    obtain ⟨hc,hf⟩:=bcell hb1
    have hz1:w.heap.size<w1.heap.size:=by have:=hb1.size;simp at this;omega
    have hB1:Below w.heap.size w w1:=by
      refine Below.trans ?_ (hb1.mono (by simp))
      (repeat' exact bel)
    clear hb1
    go_wp2_with (first | (go_at_call 83;refine (between_any _ _ _ _).mono ?_;rintro e w' ⟨rfl,rfl⟩) | (go_at_call 140;(with_reducible refine (weeks_x _ _ _ _ _ _ _ _ _ _ _ _ _ _ _).mono ?_);rintro e w2 ⟨rfl,hb2⟩))
    all_goals
      go_ret
      refine ⟨ret_bool ?_,by first | (repeat' exact bel) | (refine Below.trans ?_ (hb2.mono (by simp;omega));(repeat' exact bel))⟩
      clear hc hf hB1 hz1
      try clear hb2
      simp_all [Cal.ruled,Cal.pat0,Cal.weeks]
    all_goals grind
theorem ruled_any (c:Cal) (w:World) :
    Calls Tryz.prog 85 #[calV c] w fun e w'=>e=.returned (.bool (decide c.ruled))∧Below w.heap.size w w':=by
  by_cases h3:c.kind=3
  · exact ruled_3 c w h3
  · by_cases h4:c.kind=4
    · exact ruled_4 c w h4
    · exact ruled_n c w (beq_eq_false_iff_ne.2 h3) (beq_eq_false_iff_ne.2 h4)
theorem ruled_x (nm:ByteArray) (k d m sh sp a b p cy ex fi la po:Int) (w:World) :
    Calls Tryz.prog 85 #[.agg #[.string nm,.int .i64 k,.int .i64 d,.int .i64 m,.int .i64 sh,.int .i64 sp,.int .i64 a,.int .i64 b,.int .i64 p,.int .i64 cy,.int .i64 ex,.int .i64 fi,.int .i64 la,.int .i64 po]] w
      fun e w'=>e=.returned (.bool (decide (Cal.mk nm k d m sh sp a b p cy ex fi la po).ruled))∧Below w.heap.size w w':=ruled_any ⟨nm,k,d,m,sh,sp,a,b,p,cy,ex,fi,la,po⟩ w
end Go.Proofs.YtjhhmeoibfdcmaaGreat
namespace Go.Proofs.YtjhhmeoibfdcmaaGreat
open Go.RowKit Qd
def okE (c:Cal):Int:=if c.okB then 0 else 1
theorem okE_yes {c:Cal} (h:c.Ok):okE c=0:=by unfold okE Cal.okB;rw [decide_eq_true h];rfl
theorem okE_no {c:Cal} (h:¬ c.Ok):okE c=1:=by unfold okE Cal.okB;rw [decide_eq_false h];rfl
theorem beq_dec (x y:Int):(x==y)=decide (x=y):=by by_cases h:x=y <;> simp [h]
theorem check_any (c:Cal) (w:World) (hn:c.name.size≤1000) :
    Calls Tryz.prog 50 #[calV c] w fun e w'=>e=.returned (.int .i64 (okE c))∧Below w.heap.size w w':=by
  obtain ⟨nm,k,d,m,sh,sp,a,b,p,cy,ex,fi,la,po⟩:=c
  simp only [calV]
  dsimp only at hn
  go_enter Tryz.func50,Tryz.ntmps50
  go_wp2_with (first | (go_at_call 83;refine (between_any _ _ _ _).mono ?_;rintro e w' ⟨rfl,rfl⟩) | (go_at_call 84;(with_reducible refine (name_any _ _ hn).mono ?_);rintro e w' ⟨rfl,rfl⟩) | (go_at_call 85;(with_reducible refine (ruled_x _ _ _ _ _ _ _ _ _ _ _ _ _ _ _).mono ?_);rintro e w2 ⟨rfl,hb2⟩))
  all_goals
    go_ret
    refine ⟨ret_int ?_,by first | (repeat' exact bel) | (refine Below.trans ?_ (hb2.mono (by simp));(repeat' exact bel))⟩
    try clear hb2
    first
      | refine (okE_yes ?_).symm
      | refine (okE_no ?_).symm
    simp only [Cal.Ok,Cal.served,Cal.polic]
    try simp only [beq_dec] at *
  all_goals grind
def perV (c:Cal):Int:=if c.okB then manyP c.shape c.cycle else 0
theorem periods_any (c:Cal) (w:World) (hn:c.name.size≤1000) :
    Calls Tryz.prog 148 #[calV c] w fun e w'=>e=.returned (.tuple #[.int .i64 (perV c),.int .i64 (okE c)])∧Below w.heap.size w w':=by
  simp only [calV]
  cases hk:c.okB
  · have hE:okE c=1:=by simp [okE,hk]
    have hP:perV c=0:=by simp [perV,hk]
    go_enter Tryz.func148,Tryz.ntmps148
    go_wp2_with fail
    refine (check_any c _ hn).mono ?_
    rintro e w1 ⟨rfl,hb1⟩
    rw [hE]
    go_wp2
    go_ret2
    refine ⟨ret_int2 hP.symm hE.symm,?_⟩
    refine Below.trans ?_ (hb1.mono (by simp))
    (repeat' exact bel)
  · have hE:okE c=0:=by simp [okE,hk]
    have hP:perV c=manyP c.shape c.cycle:=by simp [perV,hk]
    go_enter Tryz.func148,Tryz.ntmps148
    go_wp2_with fail
    refine (check_any c _ hn).mono ?_
    rintro e w1 ⟨rfl,hb1⟩
    rw [hE]
    obtain ⟨hc,hf⟩:=bcell hb1
    have hB1:Below w.heap.size w w1:=by
      refine Below.trans ?_ (hb1.mono (by simp))
      (repeat' exact bel)
    clear hb1
    go_wp2_with (first | (go_at_call 203;(with_reducible refine (many_any _ _ _).mono ?_);rintro e w' ⟨rfl,rfl⟩))
    go_ret2
    exact ⟨ret_int2 hP.symm hE.symm,hB1⟩
end Go.Proofs.YtjhhmeoibfdcmaaGreat
namespace Go.Proofs.YtjhhmeoibfdcmaaGreat
open Go.RowKit
def IntsAt (w:World) (g:Nat) (xs:List Int):Prop:=w.heap[g]?=some (.cells (xs.map (Value.int .i64)).toArray 3 (0,0))
theorem IntsAt.lt {w:World} {g:Nat} {xs:List Int} (h:IntsAt w g xs):g<w.heap.size:=(Array.getElem?_eq_some_iff.1 h).1
theorem IntsAt.cell {w:World} {g:Nat} {xs:List Int} (h:IntsAt w g xs) {k:Nat} (hk:k<xs.length):w.cell? ⟨g,k,none⟩=some (.int .i64 (xs[k]?.getD 0)):=by
  rw [cell_of_row w g k _ _ _ h]
  simp [hk]
theorem IntsAt.frozen {w:World} {g:Nat} {xs:List Int} (h:IntsAt w g xs) (k:Nat):w.frozen? ⟨g,k,none⟩=false:=by
  unfold IntsAt at h
  simp [World.frozen?,h]
theorem IntsAt.below {w w':World} {K g:Nat} {xs:List Int} (h:IntsAt w g xs) (hb:Below K w w') (hg:g<K):IntsAt w' g xs:=(hb.block g hg).trans h
theorem IntsAt.call {w w':World} {g:Nat} {xs:List Int} (h:IntsAt w g xs) (hb:Below w.heap.size w w'):IntsAt w' g xs:=h.below hb h.lt
theorem IntsAt.alloc {w:World} {g:Nat} {xs:List Int} (h:IntsAt w g xs) (o:Obj):IntsAt (w.alloc o) g xs:=(Below.heap_alloc w o g h.lt).trans h
theorem IntsAt.far {w:World} {g:Nat} {xs:List Int} (h:IntsAt w g xs) {p:Addr} (hp:g≠p.block) (u:Value):IntsAt (w.setCell p u) g xs:=(Below.heap_setCell w p u g hp).trans h
theorem IntsAt.set {w:World} {g:Nat} {xs:List Int} (h:IntsAt w g xs) (k:Nat) (v:Int):IntsAt (w.setCell ⟨g,k,none⟩ (.int .i64 v)) g (xs.set k v):=by
  unfold IntsAt at h ⊢
  simp [World.setCell,Array.getElem?_modify,h,List.map_set]
def zeroObj (n:Nat):Obj:=.cells (List.replicate n (Value.int .i64 0)).toArray 3
theorem IntsAt.new (w:World) (n:Nat):IntsAt (w.alloc (zeroObj n)) w.heap.size (List.replicate n 0):=by
  unfold IntsAt zeroObj
  rw [heap_alloc_new]
  simp
theorem make_ints (n:Nat) (hn:n≤100000) (w:World):(Instr.makeSlice 94 (.int .i64 (n:Int)) (.int .i64 (n:Int))).run Tryz.prog w=.ok (.slice (some ⟨w.heap.size,0,none⟩) n n) (w.alloc (zeroObj n)):=by
  have hI:(Tryz.prog.info? 3).map (fun i=>(i.zero,i.size,i.bytes))=some (some (.int .i64 0),1,8):=by kernel_rfl
  obtain ⟨i0,hi,hz0,hz1,hz2⟩:=info_parts hI
  have hr:=run_make (P:=Tryz.prog) w 94 3 i0 (.int .i64 0) Tryz.underlying94 hi hz0 .i64 .i64 n n (by omega) (by omega) (by rw [hz2];omega) (by omega)
  rw [hr,hz1]
  have e:madeCells (Value.int .i64 0).cells (((n:Int)).toNat*1)=(List.replicate n (Value.int .i64 0)).toArray:=by
    apply Array.ext
    · simp [madeCells]
    · intro i h1 h2
      simp [madeCells,Value.cells,Nat.mod_one]
  rw [e]
  simp [zeroObj]
theorem make_12 (w:World):(Instr.makeSlice 94 (.int .i64 12) (.int .i64 12)).run Tryz.prog w=.ok (.slice (some ⟨w.heap.size,0,none⟩) 12 12) (w.alloc (zeroObj 12)):=make_ints 12 (by omega) w
def upTo (n k:Nat) (f:Nat→Int):List Int:=(List.range n).map fun i=>if i<k then f i else 0
theorem upTo_len (n k:Nat) (f:Nat→Int):(upTo n k f).length=n:=by simp [upTo]
theorem upTo_zero (n:Nat) (f:Nat→Int):upTo n 0 f=List.replicate n 0:=by
  apply List.ext_getElem
  · simp [upTo]
  · intro i h1 h2;simp [upTo]
theorem upTo_set (n k:Nat) (f:Nat→Int):(upTo n k f).set k (f k)=upTo n (k+1) f:=by
  apply List.ext_getElem
  · simp [upTo]
  · intro i h1 h2
    simp [upTo,List.getElem_set]
    by_cases h:k=i
    · subst h;simp
    · rw [if_neg h]
      by_cases h3:i<k
      · rw [if_pos h3,if_pos (by omega)]
      · rw [if_neg h3,if_neg (by omega)]
theorem upTo_full (n:Nat) (f:Nat→Int):upTo n n f=(List.range n).map f:=by
  unfold upTo
  apply List.map_congr_left
  intro i hi
  rw [if_pos (by simpa using hi)]
end Go.Proofs.YtjhhmeoibfdcmaaGreat
namespace Go.Proofs.YtjhhmeoibfdcmaaGreat
open Go.RowKit Qd
theorem per_bounds (c:Cal) (h:c.okB=true):12≤perV c∧perV c≤52:=by
  have hk:c.Ok:=by simpa [Cal.okB] using h
  have:perV c=manyP c.shape c.cycle:=by simp [perV,h]
  rw [this]
  obtain ⟨_,_,_,hr⟩:=hk
  have e2:(52:Int) / 1=52:=by decide
  have e3:(52:Int) / 2=26:=by decide
  have e4:(52:Int) / 4=13:=by decide
  unfold manyP
  simp only [Cal.ruled,Cal.weeks,weeksP,Cal.pat0] at hr
  split
  · omega
  · split
    · rcases hr with h | h | h | h | h
      · omega
      · omega
      · have h3:c.cycle=1∨c.cycle=2∨c.cycle=4:=by omega
        rcases h3 with h3 | h3 | h3 <;> rw [h3] <;> omega
      · have h3:c.cycle=1∨c.cycle=2∨c.cycle=4:=by omega
        rcases h3 with h3 | h3 | h3 <;> rw [h3] <;> omega
      · omega
    · split
      · omega
      · omega
def qOkB (c:Cal) (p:Int):Bool:=c.okB&&decide (1≤p)&&decide (p≤perV c)
def qV (c:Cal) (p:Int):Int:=if qOkB c p then (4*p+perV c-1) / perV c else 0
def qE (c:Cal) (p:Int):Int:=if qOkB c p then 0 else 1
end Go.Proofs.YtjhhmeoibfdcmaaGreat
