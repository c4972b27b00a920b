/- Package rate: the chapter's example; short spans. The plain law of rates: the days of finer units, put together. The plain law of rates: parts of an amount; what '==' says of shares; a span within one unit. Numbers as digits below 65536: the plain law of the reference of layer 2. The reference of layer 4: who is first, looked for one by one: the plain law. -/
import Derived.Test.YtjhhmeoibfdcmaaGreatUq01
import Derived.Test.YtjhhmeoibfdcmaaGreatUq15
import Derived.Test.YtjhhmeoibfdcmaaGreatUq16
set_option linter.unusedSimpArgs false
set_option linter.unusedVariables false
set_option maxRecDepth 100000
set_option maxHeartbeats 12800000
namespace Go.Proofs.YtjhhmeoibfdcmaaGreat
open Go.RowKit Qd
instance unDec21:DecidableEq Un:=fun x y=>decidable_of_iff (unB x.lv x.yr x.ix y.lv y.yr y.ix=true) (by
  obtain ⟨a,b,c⟩:=x
  obtain ⟨d,e,f⟩:=y
  simp [unB])
def cal21:Cal:=⟨⟨#[120]⟩,3,6,1,1,1,4,5,4,0,12,2000,2030,1⟩
def sb21:Int:=(spV cal21 ⟨5,2023,7⟩).b
def s21:Sp:=⟨sb21-1,sb21+1⟩
theorem l21_u:unitE cal21 ⟨5,2023,7⟩=0:=by decide +kernel
theorem l21_sa:servE cal21 s21.a=0∧servY cal21 s21.a=2023:=serv_yes (by decide +kernel) (by unfold yrOk;decide +kernel) (by decide) (by decide)
theorem l21_sb:servE cal21 s21.b=0∧servY cal21 s21.b=2023:=serv_yes (by decide +kernel) (by unfold yrOk;decide +kernel) (by decide) (by decide)
theorem l21_xa:(⟨5,2023,(ixN cal21 2023 5 (wkN cal21 2023 s21.a):Int)+1⟩:Un)=⟨5,2023,7⟩:=by decide +kernel
theorem l21_xb:(⟨5,2023,(ixN cal21 2023 5 (wkN cal21 2023 s21.b):Int)+1⟩:Un)=⟨5,2023,8⟩:=by decide +kernel
theorem l21_fa:fdE cal21 s21.a 5=0∧fdU cal21 s21.a 5=⟨5,2023,7⟩:=by
  have h:fdE cal21 s21.a 5=0:=by rw [fd_serv (by omega) (by omega)];exact l21_sa.1
  refine ⟨h,?_⟩
  rw [fdU,if_pos h,l21_sa.2,l21_xa]
theorem l21_fb:fdE cal21 s21.b 5=0∧fdU cal21 s21.b 5=⟨5,2023,8⟩:=by
  have h:fdE cal21 s21.b 5=0:=by rw [fd_serv (by omega) (by omega)];exact l21_sb.1
  refine ⟨h,?_⟩
  rw [fdU,if_pos h,l21_sb.2,l21_xb]
theorem l21_me:meetsE cal21 5 s21=0:=by
  unfold meetsE
  rw [if_pos ⟨by decide +kernel,by omega,by unfold s21;simp only;omega⟩,if_pos l21_fa.1]
  exact l21_fb.1
theorem l21_al:(allUp cal21 5 2023 1).filter (keepU ⟨5,2023,7⟩ ⟨5,2023,8⟩)=[⟨5,2023,7⟩,⟨5,2023,8⟩]:=by decide +kernel
theorem l21_ml:meetsL cal21 5 s21=[⟨5,2023,7⟩,⟨5,2023,8⟩]:=by
  rw [meetsL,if_pos l21_me,l21_fa.2,l21_fb.2,meetsN,l21_sa.2,l21_sb.2]
  exact l21_al
theorem l21_dy:([(⟨5,2023,7⟩:Un),⟨5,2023,8⟩].map (spV cal21)).map (clipV s21.a s21.b)=[2,1]:=by decide +kernel
theorem l21_sh:shL cal21 5 10 s21=[(⟨5,2023,7⟩,7),(⟨5,2023,8⟩,3)]:=by
  rw [shL,dysL,l21_ml,l21_dy]
  decide +kernel
theorem live21_any (w:World):Calls Tryz.prog 21 #[] w fun e w'=>e=.returned (.bool true)∧Below w.heap.size w w':=by
  have HSP:=hide (fun w=>rsplit_yes cal21 5 10 s21 w (by decide) l21_me (by rw [l21_ml];decide) ⟨by decide,by decide⟩)
  rw [l21_sh,l21_ml] at HSP
  obtain ⟨S,hS⟩:∃ S,spV cal21 ⟨5,2023,7⟩=S:=⟨_,rfl⟩
  have HS:=hide (show s21=⟨S.b-1,S.b+1⟩ by unfold s21 sb21;rw [hS])
  rw [HS.out] at HSP
  have HU:=hide (And.intro l21_u hS)
  have hSb:0≤S.b∧S.b<3068037:=by
    have h1:=(fd_ok l21_fa.1).2.2.2.2.1
    have h2:=(fd_ok l21_fb.1).2.2.2.2.1
    rw [HS.out] at h1 h2
    simp [isB] at h1 h2
    omega
  obtain ⟨hSb1,hSb2⟩:=hSb
  clear hS
  simp only [spanV] at HSP
  go_enter Tryz.func21,Tryz.ntmps21
  go_wp2_with fail
  refine (uspan_any cal21 ⟨5,2023,7⟩ _ (by decide)).mono ?_
  rintro e w1 ⟨rfl,hb1⟩
  rw [HU.out.1,HU.out.2]
  simp only [spanV]
  have hz1:w.heap.size<w1.heap.size:=by have:=hb1.size;simp at this;omega
  have HB1:Hid (Below w.heap.size w w1):=ww hb1
  have HQ1:=hide (calAt_below hb1 (by simp) (calAt_new w cal21))
  clear hb1
  obtain ⟨q0,q1,q2,q3,q4,q5,q6,q7,q8,q9,q10,q11,q12,q13⟩:=HQ1.out
  go_wp2_with fail
  refine (HSP.out _).mono ?_
  rintro e w2 ⟨⟨g,rfl,hsh,hg⟩,hb2⟩
  have HB2:Hid (Below w.heap.size w w2):=by have hp:=HB1.out;exact ww hb2
  obtain ⟨a0,a1,a2,a3⟩:=hsh.cell (i:=0) rfl
  obtain ⟨b0,b1,b2,b3⟩:=hsh.cell (i:=1) rfl
  simp at a0 a1 a2 a3 b0 b1 b2 b3
  have hgl:=hsh.lt
  clear hb2 hsh
  go_wp2
  all_goals first
    | (exfalso;omega)
    | skip
  go_ret
  exact ⟨rfl,HB2.out⟩
def Brief21 (c:Cal) (s:Sp) (e:Ending):Prop:=∃ b:Bool,e=.returned (.bool b)∧(b=true→c.name.size≤100∧(0≤s.a→s.a≤s.b→s.b<3068037→s.b-s.a≤1500))
theorem brief21_any (c:Cal) (s:Sp) (w:World) :
    Calls Tryz.prog 22 #[calV c,spanV s] w fun e w'=>Brief21 c s e∧Below w.heap.size w w':=by
  simp only [calV,spanV]
  go_enter Tryz.func22,Tryz.ntmps22
  by_cases h0:c.name.size≤100
  · by_cases h1:s.b<s.a
    · go_wp2
      all_goals first
        | (exfalso;omega)
        | (go_ret;exact ⟨⟨_,rfl,fun _=>⟨h0,fun _ h=>by omega⟩⟩,by (repeat' exact bel)⟩)
    · by_cases h2:s.a<0
      · go_wp2
        all_goals first
          | (exfalso;omega)
          | (go_ret;exact ⟨⟨_,rfl,fun _=>⟨h0,fun h=>by omega⟩⟩,by (repeat' exact bel)⟩)
      · by_cases h3:3068037≤s.b
        · go_wp2
          all_goals first
            | (exfalso;omega)
            | (go_ret;exact ⟨⟨_,rfl,fun _=>⟨h0,fun _ _ h=>by omega⟩⟩,by (repeat' exact bel)⟩)
        · go_wp2
          all_goals first
            | (exfalso;omega)
            | (go_ret
               refine ⟨⟨_,rfl,fun hb=>⟨h0,fun g1 g2 g3=>?_⟩⟩,by (repeat' exact bel)⟩
               have hw:wrap64 (s.b-s.a)=s.b-s.a:=by unfold wrap64;omega
               rw [hw] at hb;simpa using hb)
            | (go_ret
               refine ⟨⟨_,rfl,fun hb=>⟨h0,fun g1 g2 g3=>?_⟩⟩,by (repeat' exact bel)⟩
               simp at hb;omega)
  · go_wp2
    all_goals first
      | (exfalso;omega)
      | (go_ret;exact ⟨⟨_,rfl,fun h=>by simp at h⟩,by (repeat' exact bel)⟩)
theorem brief_len {c:Cal} {lv:Int} {s:Sp} (h:meetsE c lv s=0) (hb:0≤s.a→s.a≤s.b→s.b<3068037→s.b-s.a≤1500):(0≤s.a∧s.a≤s.b∧s.b<3068037∧s.b-s.a≤1500)∧(meetsL c lv s).length≤420:=by
  have hok:=meets_ok h
  have h1:=(fd_ok hok.2.2.2.2.1).2.2.2.2.1
  have h2:=(fd_ok hok.2.2.2.2.2).2.2.2.2.1
  simp [isB] at h1 h2
  have h3:=hb h1.1 hok.2.2.2.1 h2.2
  have h4:=meets_few h (by omega)
  have h5:=(meets_chain h).2.2.2.2
  exact ⟨⟨h1.1,hok.2.2.2.1,h2.2,h3⟩,by omega⟩
end Go.Proofs.YtjhhmeoibfdcmaaGreat
namespace Go.Proofs.YtjhhmeoibfdcmaaGreat
open Go.RowKit Qd
theorem clip_meets {c:Cal} {lv:Int} {s:Sp} (h:meetsE c lv s=0) {u:Un} (hu:u∈meetsL c lv s):unitE c u=0∧u.lv=lv∧(spV c u).a≤s.b∧s.a≤(spV c u).b∧(spV c u).a≤(spV c u).b:=by
  obtain ⟨e1,e2⟩:=meets_mem h hu
  have hd:=(dys_facts h).2 (clipV s.a s.b (spV c u)) (by unfold dysL;exact List.mem_map_of_mem (List.mem_map_of_mem hu))
  have ho:=sp_order e1
  unfold clipV at hd
  exact ⟨e1,e2,by omega,by omega,ho⟩
end Go.Proofs.YtjhhmeoibfdcmaaGreat
namespace Go.Proofs.YtjhhmeoibfdcmaaGreat
open Go.RowKit Qd
def shB (a b c d a' b' c' d':Int):Bool:=unB a b c a' b' c'&&d==d'
theorem eqShare (n:Nat) (a b c d a' b' c' d':Int) (w:World):(Op.equalIn (n+3) 111 (.agg #[.int .i64 a,.int .i64 b,.int .i64 c,.int .i64 d]) (.agg #[.int .i64 a',.int .i64 b',.int .i64 c',.int .i64 d'])).run Tryz.prog w=.ok (shB a b c d a' b' c' d') w:=by
  have u3:=Tryz.underlying2
  have a3:=Tryz.isAgg2
  have z3:=Tryz.sizeOf2
  have a5:=Tryz.isAgg26
  have z5:=Tryz.sizeOf26
  have he:=eqUnit n a b c a' b' c' w
  rw [run_equalIn_struct w _ _ _ _ (by simp [Program.fieldsOf,Tryz.underlying111]) (by kernel_rfl)]
  simp only [Program.fieldsOf,Tryz.underlying111]
  go_simp
  simp only [shB,unB]
  repeat' split
  all_goals simp_all
theorem shB_same (a b c d:Int):shB a b c d a b c d=true:=by simp [shB,unB]
theorem out_get {a:Int} {ws:List Int} (hn:0<ws.sum) {i:Nat} {x:Int} (hx:ws[i]?=some x):∃ N,(outV a ws)[i]?=some N∧(N=a*x / ws.sum∨(N=a*x / ws.sum+1∧0<a*x % ws.sum)):=by
  obtain ⟨e,h1,h2⟩:=outL_get (a:=a) hn (out_put a ws) hx
  refine ⟨_,h1,?_⟩
  rcases h2 with ⟨rfl,h2⟩ | ⟨rfl,h2⟩
  · exact .inr ⟨rfl,take_pos hn rfl (out_put a ws) h2⟩
  · left;omega
theorem out_in {a:Int} {ws:List Int} (ha:in64 a) (hw:∀ x∈ws,0≤x) (hn:0<ws.sum) {i:Nat} {N:Int} (h:(outV a ws)[i]?=some N):in64 N:=by
  have hi:=(List.getElem?_eq_some_iff.1 h).1
  rw [outV_len] at hi
  obtain ⟨x,hx⟩:∃ x,ws[i]?=some x:=⟨_,List.getElem?_eq_getElem hi⟩
  obtain ⟨M,h1,h2⟩:=out_get (a:=a) hn hx
  rw [h] at h1
  cases h1
  have h0:=hw x (List.mem_of_getElem? hx)
  have h3:=pos_sum hw x (List.mem_of_getElem? hx)
  rcases h2 with rfl | ⟨rfl,h2⟩
  · exact muldiv_bd ha h0 h3 hn
  · exact plus_in ha h0 h3 hn h2
end Go.Proofs.YtjhhmeoibfdcmaaGreat
namespace Go.Proofs.YtjhhmeoibfdcmaaGreat
open Go.RowKit
def dg (N i:Nat):Nat:=N / 65536 ^ i % 65536
theorem dg_lt (N i:Nat):dg N i<65536:=Nat.mod_lt _ (by decide)
theorem pow_pos' (i:Nat):0<65536 ^ i:=Nat.pow_pos (by decide)
theorem div_succ (N i:Nat):N / 65536 ^ (i+1)=N / 65536 ^ i / 65536:=by rw [Nat.pow_succ,Nat.div_div_eq_div_mul]
theorem div_step (N i:Nat):N / 65536 ^ i=N / 65536 ^ (i+1)*65536+dg N i:=by
  rw [div_succ,dg];omega
theorem mod_step (N i:Nat):N % 65536 ^ (i+1)=N % 65536 ^ i+65536 ^ i*dg N i:=by
  rw [Nat.pow_succ,Nat.mod_mul,dg]
theorem dg_zero_of {N i:Nat} (h:N<65536 ^ i):dg N i=0:=by rw [dg,Nat.div_eq_of_lt h]
theorem dg_high {H L i:Nat} (hL:L<18446744073709551616):dg (H*18446744073709551616+L) (4+i)=dg H i:=by
  unfold dg
  rw [Nat.pow_add,← Nat.div_div_eq_div_mul,show (65536:Nat) ^ 4=18446744073709551616 by decide,Nat.add_comm,Nat.add_mul_div_right _ _ (by decide),Nat.div_eq_of_lt hL,Nat.zero_add]
theorem dg_low {H L i:Nat} (hi:i<4):dg (H*18446744073709551616+L) i=dg L i:=by
  unfold dg
  match i,hi with
  | 0,_=>simp;omega
  | 1,_=>simp;omega
  | 2,_=>simp;omega
  | 3,_=>simp;omega
def cyA (A B i:Nat):Nat:=(A % 65536 ^ i+B % 65536 ^ i) / 65536 ^ i
theorem cyA_zero (A B:Nat):cyA A B 0=0:=by simp [cyA,Nat.mod_one]
theorem cyA_step (A B i:Nat):cyA A B i+dg A i+dg B i=(A % 65536 ^ (i+1)+B % 65536 ^ (i+1)) / 65536 ^ i:=by
  rw [mod_step,mod_step,cyA,show A % 65536 ^ i+65536 ^ i*dg A i+(B % 65536 ^ i+65536 ^ i*dg B i)=(A % 65536 ^ i+B % 65536 ^ i)+65536 ^ i*(dg A i+dg B i) by rw [Nat.mul_add];omega,Nat.add_mul_div_left _ _ (pow_pos' i)]
  omega
theorem cyA_next (A B i:Nat):(cyA A B i+dg A i+dg B i) / 65536=cyA A B (i+1):=by
  rw [cyA_step,cyA,Nat.pow_succ,← Nat.div_div_eq_div_mul]
theorem cyA_digit (A B i:Nat):(cyA A B i+dg A i+dg B i) % 65536=dg (A+B) i:=by
  rw [cyA,dg,dg,dg]
  have h:=Nat.add_div (a:=A) (b:=B) (pow_pos' i)
  rw [h]
  have hc:(A % 65536 ^ i+B % 65536 ^ i) / 65536 ^ i=if 65536 ^ i≤A % 65536 ^ i+B % 65536 ^ i then 1 else 0:=by
    have h1:=Nat.mod_lt A (pow_pos' i)
    have h2:=Nat.mod_lt B (pow_pos' i)
    split
    · exact Nat.div_eq_of_lt_le (by omega) (by omega)
    · exact Nat.div_eq_of_lt (by omega)
  rw [hc]
  omega
theorem cyA_le (A B i:Nat):cyA A B i≤1:=by
  have h1:=Nat.mod_lt A (pow_pos' i)
  have h2:=Nat.mod_lt B (pow_pos' i)
  have:cyA A B i<2:=Nat.div_lt_of_lt_mul (by omega)
  omega
theorem cyA_end {A B:Nat} (hA:A<65536 ^ 8) (hB:B<65536 ^ 8):cyA A B 8=0↔A+B<65536 ^ 8:=by
  rw [cyA,Nat.mod_eq_of_lt hA,Nat.mod_eq_of_lt hB]
  exact ⟨fun h=>by rcases Nat.div_eq_zero_iff.1 h with h | h <;> omega,fun h=>Nat.div_eq_of_lt h⟩
def boS (A B i:Nat):Nat:=if A % 65536 ^ i<B % 65536 ^ i then 1 else 0
theorem boS_zero (A B:Nat):boS A B 0=0:=by simp [boS,Nat.mod_one]
theorem boS_le (A B i:Nat):boS A B i≤1:=by unfold boS;split <;> omega
theorem boS_next (A B i:Nat):1-(dg A i+65536-dg B i-boS A B i) / 65536=boS A B (i+1):=by
  have h1:=dg_lt A i
  have h2:=dg_lt B i
  have h3:=Nat.mod_lt A (pow_pos' i)
  have h4:=Nat.mod_lt B (pow_pos' i)
  rw [boS,boS,mod_step A,mod_step B]
  generalize A % 65536 ^ i=a at *
  generalize B % 65536 ^ i=b at *
  generalize dg A i=x at *
  generalize dg B i=y at *
  generalize 65536 ^ i=M at *
  rcases Nat.lt_trichotomy x y with h | h | h
  · have:M*x+M≤M*y:=by rw [← Nat.mul_succ];exact Nat.mul_le_mul_left _ h
    rw [if_pos (show a+M*x<b+M*y by omega)]
    split <;> omega
  · subst h
    by_cases hab:a<b
    · rw [if_pos hab,if_pos (by omega)];omega
    · rw [if_neg hab,if_neg (by omega)];omega
  · have:M*y+M≤M*x:=by rw [← Nat.mul_succ];exact Nat.mul_le_mul_left _ h
    rw [if_neg (show ¬ a+M*x<b+M*y by omega)]
    split <;> omega
theorem boS_digit {A B:Nat} (h:B≤A) (i:Nat):(dg A i+65536-dg B i-boS A B i) % 65536=dg (A-B) i:=by
  have e:A=(A-B)+B:=by omega
  generalize hC:A-B=C at *
  subst e
  clear h hC
  have h3:=Nat.mod_lt C (pow_pos' i)
  have h4:=Nat.mod_lt B (pow_pos' i)
  have hd:=cyA_digit C B i
  have hl:=cyA_le C B i
  have hb:boS (C+B) B i=cyA C B i:=by
    clear hd hl
    rw [boS,cyA,Nat.add_mod]
    generalize C % 65536 ^ i=c at h3 ⊢
    generalize B % 65536 ^ i=b at h4 ⊢
    generalize 65536 ^ i=M at h3 h4 ⊢
    by_cases hc:c+b<M
    · rw [Nat.mod_eq_of_lt hc,if_neg (by omega),Nat.div_eq_of_lt hc]
    · have e1 : (c + b) % M = c + b - M := by
        rw [Nat.mod_eq_sub_mod (by omega),Nat.mod_eq_of_lt (by omega)]
      have e2:(c+b) / M=1:=Nat.div_eq_of_lt_le (by omega) (by omega)
      rw [e1,e2,if_pos (by omega)]
  rw [hb]
  have h1:=dg_lt C i
  have h2:=dg_lt B i
  omega
theorem div_bit (X b left digit:Nat) (hb:0<b) (hl:left=X / 2 % b) (hd:digit=X / 2 / b) :
    (if b≤left*2+X % 2 then left*2+X % 2-b=X % b∧digit*2+1=X / b else left*2+X % 2=X % b∧digit*2=X / b):=by
  have e1:X=(X / 2)*2+X % 2:=by omega
  have e2:X / 2=b*(X / 2 / b)+X / 2 % b:=(Nat.div_add_mod _ _).symm
  have hlt:left<b:=by rw [hl];exact Nat.mod_lt _ hb
  rw [← hl,← hd] at e2
  have e3:X=left*2+X % 2+b*(digit*2):=by
    rw [show b*(digit*2)=(b*digit)*2 by rw [Nat.mul_assoc]];omega
  have hr:X % 2<2:=Nat.mod_lt _ (by decide)
  generalize X % 2=r at *
  split
  · rename_i h
    have e4:X=(left*2+r-b)+b*(digit*2+1):=by rw [Nat.mul_add b,Nat.mul_one];omega
    exact ⟨by rw [e4,Nat.add_mul_mod_self_left,Nat.mod_eq_of_lt (by omega)],by rw [e4,Nat.add_mul_div_left _ _ hb,Nat.div_eq_of_lt (by omega)];omega⟩
  · rename_i h
    exact ⟨by rw [e3,Nat.add_mul_mod_self_left,Nat.mod_eq_of_lt (by omega)],by rw [e3,Nat.add_mul_div_left _ _ hb,Nat.div_eq_of_lt (by omega)];omega⟩
end Go.Proofs.YtjhhmeoibfdcmaaGreat
namespace Go.Proofs.YtjhhmeoibfdcmaaGreat
open Go.RowKit
def remL (a n:Int) (ws:List Int):List Int:=ws.map fun x=>a*x % n
theorem remL_at {a n:Int} {ws:List Int} {i:Nat} {x:Int} (h:ws[i]?=some x):(remL a n ws)[i]?=some (a*x % n):=by simp [remL,h]
theorem remL_len (a n:Int) (ws:List Int):(remL a n ws).length=ws.length:=by simp [remL]
def abT (l:List Int) (T:List Pt):List Int:=T.foldl (fun l p=>l.set p.pos.toNat (-1)) l
theorem abT_snoc (l:List Int) (T:List Pt) (p:Pt):abT l (T++[p])=(abT l T).set p.pos.toNat (-1):=by simp [abT]
theorem abT_len (l:List Int) (T:List Pt):(abT l T).length=l.length:=by
  induction T generalizing l with
  | nil=>rfl
  | cons p T ih=>simp only [abT,List.foldl_cons] at ih ⊢;rw [ih];simp
theorem abT_get (l:List Int) (T:List Pt) (i:Nat) (x:Int) (h:l[i]?=some x):(abT l T)[i]?=some (if T.any (fun p=>p.pos.toNat==i) then -1 else x):=by
  induction T generalizing l x with
  | nil=>simp [abT,h]
  | cons p T ih =>
    have hlt:=(List.getElem?_eq_some_iff.1 h).1
    have h1:(l.set p.pos.toNat (-1))[i]?=some (if p.pos.toNat=i then -1 else x):=by
      rw [List.getElem?_set]
      by_cases hp:p.pos.toNat=i
      · rw [if_pos hp,if_pos hp,if_pos (by omega)]
      · rw [if_neg hp,if_neg hp,h]
    have h2:=ih _ _ h1
    simp only [abT,List.foldl_cons] at h2 ⊢
    rw [h2,List.any_cons]
    by_cases hp:p.pos.toNat=i
    · simp [hp]
    · simp [hp]
def BestTo (l:List Int) (k b:Nat):Prop:=(b<k∨(k=0∧b=0))∧∀ i,i<k→l.getD i 0<l.getD b 0∨(l.getD i 0=l.getD b 0∧b≤i)
theorem best_zero (l:List Int):BestTo l 0 0:=⟨.inr ⟨rfl,rfl⟩,fun i hi=>by omega⟩
theorem best_more {l:List Int} {k b:Nat} (h:BestTo l k b) (hlt:l.getD b 0<l.getD k 0):BestTo l (k+1) k:=by
  refine ⟨.inl (by omega),fun i hi=>?_⟩
  rcases Nat.lt_or_ge i k with h1 | h1
  · rcases h.2 i h1 with h2 | h2 <;> (left;omega)
  · have:i=k:=by omega
    subst this
    right;omega
theorem best_less {l:List Int} {k b:Nat} (h:BestTo l k b) (hlt:¬ l.getD b 0<l.getD k 0):BestTo l (k+1) b:=by
  refine ⟨.inl (by rcases h.1 with h1 | h1 <;> omega),fun i hi=>?_⟩
  rcases Nat.lt_or_ge i k with h1 | h1
  · exact h.2 i h1
  · have:i=k:=by omega
    subst this
    by_cases h2:l.getD i 0<l.getD b 0
    · exact .inl h2
    · right
      refine ⟨by omega,?_⟩
      rcases h.1 with h3 | h3 <;> omega
theorem best_uniq {l:List Int} {k b c:Nat} (h:BestTo l k b) (g:BestTo l k c) (hk:0<k):b=c:=by
  have hb:b<k:=by rcases h.1 with h1 | h1 <;> omega
  have hc:c<k:=by rcases g.1 with h1 | h1 <;> omega
  have h1:=h.2 c hc
  have h2:=g.2 b hb
  omega
theorem put_nodup {a n:Int} {ws:List Int} {S:List Pt} (h:Put (ptL a n ws) S) {j k:Nat} {p q:Pt} (hj:S[j]?=some p) (hk:S[k]?=some q) (he:p.pos=q.pos):j=k:=by
  obtain ⟨hj1,rfl⟩:=List.getElem?_eq_some_iff.1 hj
  obtain ⟨hk1,rfl⟩:=List.getElem?_eq_some_iff.1 hk
  have e:=pos_inj ((put_mem h).1 (List.getElem_mem hj1)) ((put_mem h).1 (List.getElem_mem hk1)) he
  rcases Nat.lt_trichotomy j k with hh | hh | hh
  · have:=List.pairwise_iff_getElem.1 h.2 j k hj1 hk1 hh
    rw [e] at this
    unfold Pt.lt at this;omega
  · exact hh
  · have:=List.pairwise_iff_getElem.1 h.2 k j hk1 hj1 hh
    rw [e] at this
    unfold Pt.lt at this;omega
theorem best_of {a n:Int} {ws:List Int} {S:List Pt} (hn:0<n) (h:Put (ptL a n ws) S) {t:Nat} {p:Pt} (hp:S[t]?=some p):BestTo (abT (remL a n ws) (S.take t)) ws.length p.pos.toNat:=by
  have hmp:=(put_mem h).1 (List.mem_of_getElem? hp)
  obtain ⟨hp0,hp1,hp2,hp3⟩:=ab_bd hn hmp
  have val:∀ (k:Nat) (q:Pt),S[k]?=some q→(abT (remL a n ws) (S.take t)).getD q.pos.toNat 0=if k<t then -1 else q.ab:=by
    intro k q hq
    have hmq:=(put_mem h).1 (List.mem_of_getElem? hq)
    obtain ⟨q0,q1,q2,q3⟩:=ab_bd hn hmq
    obtain ⟨i,hi,e⟩:=List.getElem_of_mem hmq
    obtain ⟨x,hx,e2⟩:=ptL_get (show (ptL a n ws)[i]?=some q by rw [List.getElem?_eq_getElem hi,e])
    subst e2
    simp only [Int.toNat_natCast]
    rw [List.getD_eq_getElem?_getD,abT_get _ _ i _ (remL_at hx),Option.getD_some]
    congr 1
    apply propext
    rw [List.any_eq_true]
    constructor
    · rintro ⟨r,hr,hri⟩
      obtain ⟨j,hj,rfl⟩:=List.getElem_of_mem hr
      rw [List.length_take] at hj
      rw [List.getElem_take] at hri
      have hmr:=(put_mem h).1 (List.getElem_mem (show j<S.length by omega))
      have hb:=ab_bd hn hmr
      have:=put_nodup h (List.getElem?_eq_getElem (show j<S.length by omega)) hq (by simp at hri;simp only;omega)
      omega
    · intro hk
      refine ⟨_,List.mem_take_iff_getElem.2 ⟨k,by have:=(List.getElem?_eq_some_iff.1 hq).1;omega,rfl⟩,?_⟩
      have:=(List.getElem?_eq_some_iff.1 hq).2
      rw [this];simp
  refine ⟨.inl (by omega),fun i hi=>?_⟩
  obtain ⟨x,hx⟩:∃ x,ws[i]?=some x:=⟨_,List.getElem?_eq_getElem hi⟩
  obtain ⟨k,hk,ek⟩:=List.getElem_of_mem ((put_mem h).2 (List.mem_of_getElem? (ptL_at (a:=a) (n:=n) hx)))
  have hq:S[k]?=some ⟨(i:Int),a*x % n⟩:=by rw [List.getElem?_eq_getElem hk,ek]
  have v1:=val k _ hq
  have v2:=val t p hp
  simp only [Int.toNat_natCast] at v1
  rw [v1,v2,if_neg (show ¬ t<t by omega)]
  rcases Nat.lt_trichotomy k t with hh | hh | hh
  · rw [if_pos hh];left;omega
  · subst hh
    rw [hq] at hp
    cases hp
    rw [if_neg (by omega)]
    right
    simp
  · rw [if_neg (by omega)]
    have ht:=(List.getElem?_eq_some_iff.1 hp)
    have hs:=List.pairwise_iff_getElem.1 h.2 t k ht.1 hk hh
    rw [ht.2,ek] at hs
    unfold Pt.lt at hs
    simp only at hs
    rcases hs with hs | hs
    · left;exact hs
    · right;omega
end Go.Proofs.YtjhhmeoibfdcmaaGreat
