/- Part C of the proof: lemmas for the walks of the given functions. No statement of its own. -/
import Derived.Laws.IdiomStrings
import Derived.RangeFuncRecord
import Derived.RangeFuncIn
import Derived.RangeFuncLeaves
import Derived.Lib.ItoaNum
import Derived.Test.YtjagfionflbjbaaGreatPB
set_option linter.unusedVariables false
set_option linter.unusedSimpArgs false
set_option linter.deprecated false
namespace Go.Proofs.YtjagfionflbjbaaGreat.NumA
theorem Bpos (n:Nat):(0:Int)<4294967296 ^ n:=Int.pow_pos (by decide)
theorem powle {m n:Nat}(h:m≤n):(4294967296:Int) ^ m≤4294967296 ^ n:=by
  have h2:((4294967296 ^ m:Nat):Int)≤((4294967296 ^ n:Nat):Int):=Int.ofNat_le.2 (Nat.pow_le_pow_right (by decide) h)
  rw [Int.natCast_pow,Int.natCast_pow] at h2
  exact h2
theorem two32 (n:Nat):(2:Int) ^ (32*n)=4294967296 ^ n:=by rw [Int.pow_mul]; rfl
theorem top2 {vs:List Int}{n:Nat}(hl:vs.length=n+2):val vs=(vs.getD (n+1) 0*4294967296+vs.getD n 0)*4294967296 ^ n+val (vs.take n):=by
  have h1:=val_take_succ' (ws:=vs) (n+1)
  have h2:=val_take_succ' (ws:=vs) n
  rw [List.take_of_length_le (by omega)] at h1
  rw [h1,h2,Int.pow_succ]; grind
theorem top3 {win:List Int}{n:Nat}(hl:win.length=n+3):val win=((win.getD (n+2) 0*4294967296+win.getD (n+1) 0)*4294967296+win.getD n 0)*4294967296 ^ n+val (win.take n):=by
  have h1:=val_take_succ' (ws:=win) (n+2)
  have h2:=val_take_succ' (ws:=win) (n+1)
  have h3:=val_take_succ' (ws:=win) n
  rw [List.take_of_length_le (by omega)] at h1
  rw [h1,h2,h3,Int.pow_succ,Int.pow_succ]; grind
theorem take_lt {ws:List Int}(h:Wd ws){n:Nat}(hn:n≤ws.length):0≤val (ws.take n)∧val (ws.take n)<4294967296 ^ n:=by
  have h1:=val_nonneg (h.take n)
  have h2:=val_lt (h.take n)
  rw [List.length_take,Nat.min_eq_left hn] at h2
  exact ⟨h1,h2⟩
theorem guess_first {win vs : List Int} {n : Nat} (h : Wd win) (h2 : Wd vs) (hl : win.length = n + 3) (hl2 : vs.length = n + 2) (hd1 : 2147483648 ≤ vs.getD (n + 1) 0) (hlt : val win < 4294967296 * val vs) :
    0<val vs∧0≤val win / val vs∧val win / val vs*val vs≤val win∧val win / val vs<4294967296∧win.getD (n+2) 0*4294967296+win.getD (n+1) 0≤vs.getD (n+1) 0*4294967296+4294967295∧val win / val vs≤(win.getD (n+2) 0*4294967296+win.getD (n+1) 0) / vs.getD (n+1) 0:=by
  have e1:=top3 hl
  have e2:=top2 hl2
  have t1:=take_lt h (n:=n) (by omega)
  have t2:=take_lt h2 (n:=n) (by omega)
  have w2:=h.getD n
  have w3:=h.getD (n+1)
  have w4:=h.getD (n+2)
  have v1:=h2.getD (n+1)
  have v2:=h2.getD n
  have hP:=Bpos n
  have hU0:0≤win.getD (n+2) 0*4294967296+win.getD (n+1) 0:=by omega
  generalize val (win.take n)=u3 at *
  generalize val (vs.take n)=d3 at *
  generalize win.getD (n+2) 0*4294967296+win.getD (n+1) 0=U at *
  generalize vs.getD (n+1) 0=d1 at *
  generalize vs.getD n 0=d2 at *
  generalize win.getD n 0=u2 at *
  generalize (4294967296:Int) ^ n=P at *
  generalize val win=R at *
  generalize val vs=D at *
  have hDpos:0<D:=by
    have:1*P≤(d1*4294967296+d2)*P:=Int.mul_le_mul_of_nonneg_right (by omega) (by omega)
    omega
  have hR0:0≤R:=by
    have:=Int.mul_nonneg (show 0≤U*4294967296+u2 by omega) (Int.le_of_lt hP); omega
  have hQ0:0≤R / D:=Int.ediv_nonneg hR0 (by omega)
  have hQD:R / D*D≤R:=Int.ediv_mul_le R (by omega)
  have hQB:R / D<4294967296:=Int.ediv_lt_of_lt_mul hDpos hlt
  refine ⟨hDpos,hQ0,hQD,hQB,?_,?_⟩
  · by_cases e:U≤d1*4294967296+4294967295
    · exact e
    · have g1:((d1*4294967296+4294967296)*4294967296+u2)*P≤(U*4294967296+u2)*P:=Int.mul_le_mul_of_nonneg_right (by omega) (by omega)
      have g2:(d1*4294967296+d2+1)*P≤(d1*4294967296+4294967296)*P:=Int.mul_le_mul_of_nonneg_right (by omega) (by omega)
      have g3:((d1*4294967296+4294967296)*4294967296+u2)*P=4294967296*((d1*4294967296+4294967296)*P)+u2*P:=by grind
      have g4:0≤u2*P:=Int.mul_nonneg (by omega) (by omega)
      have g5:(d1*4294967296+d2+1)*P=(d1*4294967296+d2)*P+P:=by grind
      omega
  · generalize R / D=Q at *
    have hq:Q*d1≤U:=by
      by_cases e:Q*d1≤U
      · exact e
      · have g1:((U+1)*4294967296)*P≤(Q*d1*4294967296)*P:=Int.mul_le_mul_of_nonneg_right (by omega) (by omega)
        have g2:(Q*d1*4294967296)*P+Q*(d2*P+d3)=Q*D:=by rw [e2]; grind
        have g3:0≤Q*(d2*P+d3):=Int.mul_nonneg hQ0 (by have:=Int.mul_nonneg (show 0≤d2 by omega) (Int.le_of_lt hP); omega)
        have g4:(u2+1)*P≤4294967296*P:=Int.mul_le_mul_of_nonneg_right (by omega) (by omega)
        have g5:(U*4294967296+u2)*P=U*4294967296*P+u2*P:=by grind
        have g6:((U+1)*4294967296)*P=U*4294967296*P+4294967296*P:=by grind
        have g7:(u2+1)*P=u2*P+P:=by grind
        omega
    exact (Int.le_ediv_iff_mul_le (by omega)).2 hq
theorem guess_ok {win vs : List Int} {n : Nat} (h : Wd win) (h2 : Wd vs) (hl : win.length = n + 3) (hl2 : vs.length = n + 2) (hd1 : 2147483648 ≤ vs.getD (n + 1) 0) (hlt : val win < 4294967296 * val vs) {q : Int} (hq : q = guessW (win.getD (n + 2) 0) (win.getD (n + 1) 0) (win.getD n 0) (vs.getD (n + 1) 0) (vs.getD n 0)) :
    val win / val vs≤q∧q<4294967296∧(q - 1)*val vs≤val win:=by
  obtain ⟨hDpos,hQ0,hQD,hQB,hU,hQq⟩:=guess_first h h2 hl hl2 hd1 hlt
  have t1:=take_lt h (n:=n) (by omega)
  have t2:=take_lt h2 (n:=n) (by omega)
  have w2:=h.getD n
  have w3:=h.getD (n+1)
  have w4:=h.getD (n+2)
  have v1:=h2.getD (n+1)
  have v2:=h2.getD n
  subst hq
  unfold guessW
  have hU0:0≤win.getD (n+2) 0*4294967296+win.getD (n+1) 0:=by omega
  refine gL_ok (top3 hl) (top2 hl2) (Bpos n) w2.1 t1 (by omega) v2 t2 hU hQ0 hQD hQB hDpos 2 _ _ ?_ ?_ ?_ ?_ ?_ hQq
  · exact Int.ediv_nonneg hU0 (by omega)
  · rw [Int.mul_comm]; exact Int.mul_ediv_add_emod _ _
  · exact Int.emod_nonneg _ (by omega)
  · have:=Int.emod_lt_of_pos (win.getD (n+2) 0*4294967296+win.getD (n+1) 0) (show 0<vs.getD (n+1) 0 by omega); omega
  · have:=Int.emod_nonneg (win.getD (n+2) 0*4294967296+win.getD (n+1) 0) (show vs.getD (n+1) 0≠0 by omega); omega
structure GuessAt (U u2 d1 d2 G:Int) (x:Nat×Int×Int):Prop where
  n:1≤x.1
  q0:0≤x.2.1
  qr:x.2.1*d1+x.2.2=U
  r:0≤x.2.2∧x.2.2<4294967296
  f:4294967296≤x.2.2+x.1*d1
  g:gL u2 d1 d2 x.1 x.2.1 x.2.2=G
theorem GuessAt.start {u0 u1 u2 d1 d2:Int}(h0:0≤u0*4294967296+u1)(hd:2147483648≤d1∧d1<4294967296):GuessAt (u0*4294967296+u1) u2 d1 d2 (guessW u0 u1 u2 d1 d2) (2,(u0*4294967296+u1) / d1,(u0*4294967296+u1) % d1):=by
  have h1:=Int.emod_nonneg (u0*4294967296+u1) (show d1≠0 by omega)
  have h2:=Int.emod_lt_of_pos (u0*4294967296+u1) (show 0<d1 by omega)
  exact ⟨by show 1≤2; decide,Int.ediv_nonneg h0 (by omega),by simp only; rw [Int.mul_comm]; exact Int.mul_ediv_add_emod _ _,⟨h1,by simp only; omega⟩,by simp only; omega,rfl⟩
theorem GuessAt.qb {U u2 d1 d2 G q r:Int}{n:Nat}(ha:GuessAt U u2 d1 d2 G (n,q,r))(hd:2147483648≤d1):q≤U:=by
  have h1:=ha.qr
  have h2:=ha.r.1
  have h3:=ha.q0
  simp only at h1 h2 h3
  have:q*1≤q*d1:=Int.mul_le_mul_of_nonneg_left (by omega) h3
  omega
theorem GuessAt.bad {U u2 d1 d2 G q r:Int}{n:Nat}(ha:GuessAt U u2 d1 d2 G (n,q,r))(hb:4294967296≤q∨r*4294967296+u2<q*d2)(hu2:0≤u2)(hd:0≤d1):1≤q∧(4294967296≤r+d1→q - 1=G)∧(r+d1<4294967296→GuessAt U u2 d1 d2 G (n - 1,q - 1,r+d1)):=by
  obtain ⟨h1,h2,h3,h4,h5,h6⟩:=ha
  simp only at h1 h2 h3 h4 h5 h6
  have hq:1≤q:=by
    rcases hb with e | e
    · omega
    · by_cases c:q=0
      · rw [c,Int.zero_mul] at e; omega
      · omega
  obtain ⟨m,rfl⟩:∃ m,n=m+1:=⟨n - 1,by omega⟩
  rw [gL,if_pos hb] at h6
  have e1:((m+1:Nat):Int)*d1=m*d1+d1:=by rw [Int.natCast_succ,Int.add_mul,Int.one_mul]
  refine ⟨hq,fun h=>by rw [if_pos h] at h6; exact h6,fun h=>?_⟩
  rw [if_neg (by omega)] at h6
  have hm:1≤m:=by
    by_cases c:m=0
    · subst c; simp at h5; omega
    · omega
  exact ⟨by simpa using hm,by simp only; omega,by simp only; rw [← h3]; grind,by simp only; omega,by simp only [Nat.add_sub_cancel]; omega,by simpa using h6⟩
theorem GuessAt.good {U u2 d1 d2 G q r:Int}{n:Nat}(ha:GuessAt U u2 d1 d2 G (n,q,r))(hb:¬ (4294967296≤q∨r*4294967296+u2<q*d2)):q=G:=by
  obtain ⟨h1,h2,h3,h4,h5,h6⟩:=ha
  simp only at h1 h6
  obtain ⟨m,rfl⟩:∃ m,n=m+1:=⟨n - 1,by omega⟩
  rwa [gL,if_neg hb] at h6
structure PartAt (W:List Int) (n:Nat) (D:Int) (x:Nat×Int×List Int):Prop where
  le:x.1+n≤W.length
  r:0≤x.2.1∧x.2.1<D
  wd:Wd x.2.2
  len:x.2.2.length+x.1+n=W.length
  eq:val x.2.2*D+x.2.1=val (W.drop x.1)
theorem PartAt.start {W:List Int}{n:Nat}{D:Int}(h:Wd W)(hn:n≤W.length)(hlt:val (W.drop (W.length - n))<D):PartAt W n D (W.length - n,val (W.drop (W.length - n)),[]) :=
  ⟨by simp only; omega,⟨val_nonneg (h.drop _),hlt⟩,Wd.nil,by simp only [List.length_nil]; omega,by simp [val]⟩
def restAt (W:List Int)(n:Nat)(i:Nat)(R:Int):List Int:=W.take i++(digN n R++List.replicate (W.length - n - i) 0)
theorem restAt_length {W:List Int}{n i:Nat}{R:Int}(h:i+n≤W.length):(restAt W n i R).length=W.length:=by simp [restAt,digN_length]; omega
theorem restAt_wd {W:List Int}{n i:Nat}{R:Int}(h:Wd W):Wd (restAt W n i R):=(h.take i).append ((digN_wd _ _).append (Wd.rep _))
theorem restAt_start {W:List Int}{n:Nat}(h:Wd W)(hn:n≤W.length):restAt W n (W.length - n) (val (W.drop (W.length - n)))=W:=by
  have e:digN n (val (W.drop (W.length - n)))=W.drop (W.length - n):=by
    have:=digN_val (h.drop (W.length - n))
    rwa [List.length_drop,show W.length - (W.length - n)=n by omega] at this
  rw [restAt,e,Nat.sub_self,List.replicate_zero,List.append_nil,List.take_append_drop]
theorem restAt_win {W:List Int}{n i:Nat}{R:Int}(hi:i<W.length):restAt W n (i+1) R=W.take i++((W.getD i 0 :: digN n R)++List.replicate (W.length - n - (i+1)) 0):=by
  rw [restAt,List.take_succ_eq_append_getElem hi,List.append_assoc,List.singleton_append,List.cons_append]
  simp [List.getD_eq_getElem?_getD,hi]
theorem digN_top {n:Nat}{m:Int}(h0:0≤m)(h1:m<4294967296 ^ n):digN (n+1) m=digN n m++[0]:=by
  have hw:Wd (digN n m++[0]):=(digN_wd n m).snoc (by decide) (by decide)
  have hv:val (digN n m++[0])=m:=by rw [val_snoc,val_digN h0 h1]; simp
  have:=digN_val hw
  rw [hv] at this
  simpa [digN_length] using this
theorem restAt_next {W:List Int}{n i:Nat}{R:Int}(h0:0≤R)(h1:R<4294967296 ^ n)(hi:i+1+n≤W.length):W.take i++(digN (n+1) R++List.replicate (W.length - n - (i+1)) 0)=restAt W n i R:=by
  rw [restAt,digN_top h0 h1,List.append_assoc,show W.length - n - i=(W.length - n - (i+1))+1 by omega,List.replicate_succ,List.singleton_append]
theorem PartAt.win {W:List Int}{n:Nat}{D R:Int}{i:Nat}{qs:List Int}(h:Wd W)(hD:D<4294967296 ^ n)(ha:PartAt W n D (i+1,R,qs)):Wd (W.getD i 0 :: digN n R)∧(W.getD i 0 :: digN n R).length=n+1∧val (W.getD i 0 :: digN n R)=W.getD i 0+4294967296*R∧val (W.getD i 0 :: digN n R)<4294967296*D:=by
  have hr:=ha.r
  simp only at hr
  have hw:=h.getD i
  have e:val (W.getD i 0 :: digN n R)=W.getD i 0+4294967296*R:=by rw [val,val_digN hr.1 (by omega)]
  exact ⟨Wd.cons.2 ⟨hw,digN_wd _ _⟩,by simp [digN_length],e,by omega⟩
theorem PartAt.next {W:List Int}{n:Nat}{D R:Int}{i:Nat}{qs:List Int}(h:Wd W)(hDpos:0<D)(ha:PartAt W n D (i+1,R,qs)){V:Int}(hV:V=W.getD i 0+4294967296*R):PartAt W n D (i,V % D,V / D :: qs):=by
  obtain ⟨hle,hr,hw,hlen,heq⟩:=ha
  simp only at hle hr hw hlen heq
  have hwi:=h.getD i
  have h1:=Int.ediv_nonneg (a:=V) (b:=D) (by omega) (by omega)
  have h2:V / D<4294967296:=Int.ediv_lt_of_lt_mul hDpos (by omega)
  refine ⟨by simp only; omega,⟨Int.emod_nonneg _ (by omega),Int.emod_lt_of_pos _ hDpos⟩,Wd.cons.2 ⟨⟨h1,h2⟩,hw⟩,by simp only [List.length_cons]; omega,?_⟩
  simp only
  rw [val,drop_val W i,← heq]
  have h3:=Int.mul_ediv_add_emod V D
  generalize V / D=Q at *
  generalize V % D=r at *
  rw [hV] at h3
  generalize W.getD i 0=w at *
  have:w=D*Q+r - 4294967296*R:=by omega
  subst this
  grind
theorem part_end {A b R:Int}{qs:List Int}{k:Nat}(hb:0<b)(heq:val qs*(b*2 ^ k)+R=A*2 ^ k)(hr:0≤R∧R<b*2 ^ k):val qs=A / b∧R / 2 ^ k=A % b:=by
  have hp:(0:Int)<2 ^ k:=Int.pow_pos (by decide)
  have e:R=2 ^ k*(A - val qs*b):=by
    have:R=A*2 ^ k - val qs*(b*2 ^ k):=by omega
    rw [this]; grind
  have e2:R / 2 ^ k=A - val qs*b:=by rw [e,Int.mul_ediv_cancel_left _ (by omega)]
  have h0:0≤A - val qs*b:=by rw [← e2]; exact Int.ediv_nonneg hr.1 (by omega)
  have h1:A - val qs*b<b:=by
    by_cases c:A - val qs*b<b
    · exact c
    · have:=Int.mul_le_mul_of_nonneg_left (show b≤A - val qs*b by omega) (Int.le_of_lt hp)
      rw [← e,Int.mul_comm] at this; omega
  have hu:=(Int.ediv_emod_unique (a:=A) (b:=b) (r:=A - val qs*b) (q:=val qs) hb).2 ⟨by rw [Int.mul_comm b]; omega,h0,h1⟩
  exact ⟨hu.1.symm,by rw [e2]; exact hu.2.symm⟩
theorem drop_bd {W:List Int}(h:Wd W){i:Nat}(hi:i≤W.length):4294967296 ^ i*val (W.drop i)≤val W:=by
  have h1:=val_drop W i
  have h2:=val_nonneg (h.take i)
  rw [Nat.min_eq_left hi] at h1
  omega
theorem norm_bd {ws:List Int}(h:Wd ws)(ht:Tr ws)(hn:ws≠[]){k:Nat}(hk:k+bl (ws.getD (ws.length - 1) 0).toNat=32):2147483648*4294967296 ^ (ws.length - 1)≤val ws*2 ^ k∧val ws*2 ^ k<4294967296 ^ ws.length∧k<32:=by
  have hb:=bl_val h ht hn
  have hlen:0<ws.length:=List.length_pos_iff.2 hn
  have hv:=val_nonneg h
  have htop:ws.getD (ws.length - 1) 0≠0:=by
    rcases ht with e | e
    · omega
    · exact e
  have hw:=h.getD (ws.length - 1)
  have h1:1≤bl (ws.getD (ws.length - 1) 0).toNat:=by
    by_cases e:1≤bl (ws.getD (ws.length - 1) 0).toNat
    · exact e
    · have:=(bl_spec (n:=(ws.getD (ws.length - 1) 0).toNat) (k:=0)).1 (by omega)
      rw [Nat.pow_zero] at this; omega
  have hbl:bl (val ws).toNat=32*(ws.length - 1)+bl (ws.getD (ws.length - 1) 0).toNat:=by omega
  generalize bl (ws.getD (ws.length - 1) 0).toNat=t at *
  have hlo:2 ^ (32*(ws.length - 1)+t - 1)≤(val ws).toNat:=by
    by_cases e:2 ^ (32*(ws.length - 1)+t - 1)≤(val ws).toNat
    · exact e
    · have:=(bl_spec (n:=(val ws).toNat) (k:=32*(ws.length - 1)+t - 1)).2 (by omega)
      omega
  have hhi:=(bl_spec (n:=(val ws).toNat) (k:=32*(ws.length - 1)+t)).1 (by omega)
  have hlo2:(2:Int) ^ (32*(ws.length - 1)+t - 1)≤val ws:=by
    have:((2 ^ (32*(ws.length - 1)+t - 1):Nat):Int)≤((val ws).toNat:Int):=Int.ofNat_le.2 hlo
    rw [Int.natCast_pow,Int.toNat_of_nonneg hv] at this; exact this
  have hhi2:val ws<(2:Int) ^ (32*(ws.length - 1)+t):=by
    have:((val ws).toNat:Int)<((2 ^ (32*(ws.length - 1)+t):Nat):Int):=Int.ofNat_lt.2 hhi
    rw [Int.natCast_pow,Int.toNat_of_nonneg hv] at this; exact this
  have hp:(0:Int)<2 ^ k:=Int.pow_pos (by decide)
  refine ⟨?_,?_,by omega⟩
  · have:=Int.mul_le_mul_of_nonneg_right hlo2 (Int.le_of_lt hp)
    rw [← Int.pow_add,show 32*(ws.length - 1)+t - 1+k=31+32*(ws.length - 1) by omega,Int.pow_add,two32] at this
    exact this
  · have:=Int.mul_lt_mul_of_pos_right hhi2 hp
    rw [← Int.pow_add,show 32*(ws.length - 1)+t+k=32*ws.length by omega,two32] at this
    exact this
theorem top_bit {vs:List Int}(h:Wd vs){n:Nat}(hl:vs.length=n+1)(hv:2147483648*4294967296 ^ n≤val vs):2147483648≤vs.getD n 0:=by
  have h1:=val_take_succ' (ws:=vs) n
  rw [List.take_of_length_le (by omega)] at h1
  have h2:=take_lt h (n:=n) (by omega)
  by_cases e:2147483648≤vs.getD n 0
  · exact e
  · have h3:4294967296 ^ n*(vs.getD n 0+1)≤4294967296 ^ n*2147483648:=Int.mul_le_mul_of_nonneg_left (by omega) (Int.le_of_lt (Bpos n))
    have h4:(4294967296:Int) ^ n*(vs.getD n 0+1)=4294967296 ^ n*vs.getD n 0+4294967296 ^ n:=by grind
    omega
end Go.Proofs.YtjagfionflbjbaaGreat.NumA
namespace Go.Proofs.YtjagfionflbjbaaGreat.NumA
theorem div_pos {m:Bool}{A B:Int}(hA:0≤A)(hB:0<B):(sg m A / B=if m=true∧A % B≠0 then -(A / B+1) else sg m (A / B))∧(sg m A % B=if m=true∧A % B≠0 then B - A % B else A % B):=by
  have h1:=Int.mul_ediv_add_emod A B
  have h2:=Int.emod_nonneg A (show B≠0 by omega)
  have h3:=Int.emod_lt_of_pos A hB
  cases m with
  | false=>simp [sg]
  | true =>
    generalize A / B=Q at *
    generalize A % B=R at *
    by_cases e:R=0
    · subst e
      have:=(Int.ediv_emod_unique (a:=-A) (b:=B) (r:=0) (q:=-Q) hB).2 ⟨by rw [Int.mul_neg]; omega,by omega,by omega⟩
      simp [sg,this]
    · have e2:B * -(Q+1) = -(B*Q) - B:=by grind
      have:=(Int.ediv_emod_unique (a:=-A) (b:=B) (r:=B - R) (q:=-(Q+1)) hB).2 ⟨by omega,by omega,by omega⟩
      simp [sg,this,e]
theorem div_sg {m n:Bool}{A B:Int}(hA:0≤A)(hB:0<B):(sg m A / sg n B=if m=true∧A % B≠0 then sg (m != n) (A / B+1) else sg (m != n) (A / B))∧(sg m A % sg n B=if m=true∧A % B≠0 then B - A % B else A % B):=by
  have h:=div_pos (m:=m) hA hB
  cases n with
  | false =>
    simp only [Bool.bne_false]
    refine ⟨?_,by simpa [sg] using h.2⟩
    have h1:=h.1
    rw [show sg false B=B by simp [sg],h1]
    split
    · rename_i e; simp [sg,e.1]
    · rfl
  | true =>
    have e1:sg true B = -B:=by simp [sg]
    rw [e1,Int.ediv_neg,Int.emod_neg,h.1,h.2]
    refine ⟨?_,rfl⟩
    split
    · rename_i e; simp [sg,e.1]
    · cases m <;> simp [sg]
theorem gcd_step (x y:Nat):Nat.gcd x y=Nat.gcd y (x % y):=by
  rw [Nat.gcd_comm x y,Nat.gcd_rec y x,Nat.gcd_comm]
end Go.Proofs.YtjagfionflbjbaaGreat.NumA
set_option maxRecDepth 100000
set_option maxHeartbeats 4000000
namespace Go.Proofs.YtjagfionflbjbaaGreat.N
open Go Go.Proofs.YtjagfionflbjbaaGreat.SH Go.Proofs.YtjagfionflbjbaaGreat.NumA
open Go.Proofs.Tryz renaming isAgg119→ag119,sizeOf119→sz119,underlying119→un119,underlying127→un127,underlying146→un146
theorem guess_says (u0 u1 u2 d1 d2:Int)(h0:0≤u0∧u0<4294967296)(h1:0≤u1∧u1<4294967296)(h2:0≤u2∧u2<4294967296)(hd1:2147483648≤d1∧d1<4294967296)(hd2:0≤d2∧d2<4294967296):Says E 159 [.agg [oZ u0,oZ u1,oZ u2],oZ d1,oZ d2] (uZ (guessW u0 u1 u2 d1 d2)):=by
 refine says_of (xs:=[uZ (guessW u0 u1 u2 d1 d2)]) Tryz.func159 rfl Tryz.ntmps159 Tryz.results159 sM fun F hG hX0 hnt hdf P0=>?_
 obtain ⟨L,hX,hN⟩:=pro hnt hX0 hG
 have hU0:0≤u0*4294967296+u1:=by omega
 have hqb:(u0*4294967296+u1) / d1<18446744073709551616:=by have:=Int.ediv_le_self d1 hU0; omega
 refine exr (swb (c_bx (k:=3) (n:=3) pa3 rfl rfl (P0 _ rfl) L) t1 t0 ⟨rfl,rfl⟩ (aV L rfl (zn [(1,_),(2,_),(3,_)] [(3,_)] t3 t1 (exr (sw (core_indexAddrA un146 sz119 rF dC oM L) t2 t1 ?_)))))
 refine sw (c_l1 ag119 rF rF L) t1 t1 ?_
 refine sw (c_cv un119 un127 L (fu64 oM oM)) t1 t0 (sw (c_sl L dC (shlE (c:=4294967296) rF (fu64 oM oM))) t2 t0 ?_)
 refine sw (core_indexAddrA un146 sz119 rF dC oM L) t2 t1 ?_
 refine sw (c_l1 ag119 rF rF L) t1 t1 ?_
 refine sw (c_cv un119 un127 L (fu64 oM oM)) t1 t0 (sw (c_or L (or64' (b:=u0) 32 rfl h1.1 h1.2 h0.1 dC oM oM)) t2 t0 (aV L rfl ?_))
 refine seq_nil ⟨[(1,_),(2,_),(3,_),(7,vw (u0*4294967296+u1))],[(3,_)],⟨rfl,rfl,rfl,oi oM rfl,trivial⟩,t1,?_⟩
 refine exd rF ?_
 refine mV L rfl (mV L rfl (sw (c_cv un119 un127 L (fu64 oM oM)) t1 t0 (sw (c_q L oM (tdivE hU0 oM hqb)) t2 t0 (mV L rfl (mV L rfl (sw (c_cv un119 un127 L (fu64 oM oM)) t1 t0 (sw (c_r L oM (tmodE hU0 oM)) t2 t0 (aV L rfl (aV L rfl ?_)))))))))
 refine seq_nil ⟨aoks [⟨[7],[],[18],[]⟩,⟨[1],[],[19],[]⟩,⟨[19],[],[20],[]⟩,⟨[18,20],[],[21],[]⟩,⟨[7],[],[22],[]⟩,⟨[1],[],[23],[]⟩,⟨[23],[],[24],[]⟩,⟨[22,24],[],[25],[]⟩,⟨[21],[],[8],[]⟩,⟨[25],[],[9],[]⟩] rF rF dC,[(1,_),(2,_),(3,_),(8,_),(9,_)],[(3,_)],t5,t1,?_⟩
 refine ex_seq (ex_block ?_)
 refine exl (α:=(Nat×Int×Int)) (fun x=>[(8,vw x.2.1),(9,vw x.2.2)]) (fun x=>[]) (fun x=>GuessAt (u0*4294967296+u1) u2 d1 d2 (guessW u0 u1 u2 d1 d2) x) (fun x=>x.1) ((2,(u0*4294967296+u1) / d1,(u0*4294967296+u1) % d1)) (sl:=[(1,_),(2,_),(3,_)]) (hb:=[(3,_)]) ?_ ⟨oR,oR,rfl,rfl,rfl,trivial⟩ t1 ?_
 ·exact GuessAt.start hU0 hd1
 intro x hx
 obtain ⟨n,q,r⟩:=x
 have hn:=hx.n
 have hq0:=hx.q0
 have hr:=hx.r
 have hqU:=hx.qb hd1.1
 simp only at hn hq0 hr
 dsimp only
 refine ex_seq ?_
 refine exm (sl:=[(40,vb (decide (4294967296≤q∨r*4294967296+u2<q*d2)))]) (sl0:=[(1,_),(2,_),(3,_),(8,_),(9,_)]) (hb:=[]) (hb0:=[(3,_)]) t5 t1 ?_ ?_
 ·by_cases hq:4294967296≤q
  ·refine mV L rfl (sw (c_ge L) t2 t0 (mV L rfl (swn (g:=28) rfl (decide_eq_true hq) L rfl (swn (g:=28) rfl (decide_eq_true hq) L rfl (swn (g:=28) rfl (decide_eq_true hq) L rfl (swn (g:=28) rfl (decide_eq_true hq) L rfl (swn (g:=28) rfl (decide_eq_true hq) L rfl (swn (g:=28) rfl (decide_eq_true hq) L rfl (swn (g:=28) rfl (decide_eq_true hq) L rfl (swn (g:=28) rfl (decide_eq_true hq) L rfl (swn (g:=28) rfl (decide_eq_true hq) L rfl ?_)))))))))))
   refine swn (g:=28) rfl (decide_eq_true hq) L rfl (swn (g:=28) rfl (decide_eq_true hq) L rfl (sw (c_pt (decide_eq_true hq) L) t2 t0 ?_))
   exact seq_nil ⟨⟨ob rfl (by simp [hq]),rfl,rfl,rfl,rfl,rfl,trivial⟩,t1⟩
  ·refine mV L rfl (sw (c_ge L) t2 t0 (mV L rfl (gV (g:=28) rfl (decide_eq_false hq) L rfl rfl (gV (g:=28) rfl (decide_eq_false hq) L rfl rfl (swg (g:=28) rfl (decide_eq_false hq) (c_cv un119 un127 L (fu64 oM oM)) rfl t1 t0 (swg (g:=28) rfl (decide_eq_false hq) (c_mu L (fu64 (mul_bd ⟨hq0,by omega⟩ hd2).1 (by have:=mul_bd (x:=q) ⟨hq0,by omega⟩ hd2; omega))) rfl t2 t0 ?_))))))
   refine gV (g:=28) rfl (decide_eq_false hq) L rfl rfl (swg (g:=28) rfl (decide_eq_false hq) (c_sl L dC (shlE (c:=4294967296) rF (fu64 oM oM))) rfl t2 t0 ?_)
   refine swg (g:=28) rfl (decide_eq_false hq) (core_indexAddrA un146 sz119 rF dC oM L) rfl t2 t1 ?_
   refine swg (g:=28) rfl (decide_eq_false hq) (c_l1 ag119 rF rF L) rfl t1 t1 ?_
   refine swg (g:=28) rfl (decide_eq_false hq) (c_cv un119 un127 L (fu64 oM oM)) rfl t1 t0 (swg (g:=28) rfl (decide_eq_false hq) (c_or L (or64' (b:=r) 32 rfl h2.1 h2.2 hr.1 dC oM oM)) rfl t2 t0 (swg (g:=28) rfl (decide_eq_false hq) (c_gt L) rfl t2 t0 (sw (c_pf (decide_eq_false hq) L) t2 t0 ?_)))
   exact seq_nil ⟨⟨ob rfl (dec_eq oM),rfl,rfl,rfl,rfl,rfl,trivial⟩,t1⟩
 refine ex_if rfl (fun hb=>?_) (fun hb=>?_)
 ·have hb:=dt hb
  obtain ⟨b1,b2,b3⟩:=hx.bad hb h2.1 oM
  refine ex_skip (xq ?_)
  refine ex_block (exr (mV L rfl (sw (c_su L (fu64 oM oM)) t2 t0 (aV L rfl (zn [(1,_),(2,_),(3,_),(8,_),(9,_)] [(3,_)] t5 t1 (exr (mV L rfl (mV L rfl (sw (c_cv un119 un127 L (fu64 oM oM)) t1 t0 (sw (c_ad L (fu64 oM oM)) t2 t0 (aV L rfl ?_)))))))))))
  refine zn [(1,_),(2,_),(3,_),(8,_),(9,_)] [(3,_)] t5 t1 (exr (mV L rfl (sw (c_ge L) t2 t0 (zn [(1,_),(2,_),(3,_),(8,_),(9,_),(48,_)] [(3,_)] t6 t1 ?_))))
  refine ex_if rfl (fun hc=>?_) (fun hc=>?_)
  ·have hc:=dt hc
   refine ex_exit (xq ?_)
   refine exr (mV L rfl (aV L rfl (zn [(6,_)] [] t1 trivial (ex_ret ?_))))
   refine ⟨.inr rfl,ResVs.cast (.cons (.tmp rfl) .nil) ?_⟩
   rw [b2 oM]
  ·have hc:=df hc
   refine ex_skip ?_
   exact ⟨(n - 1,q - 1,r+d1),b3 oM,(by simp only; omega),le_of ⟨oR,oR,rfl,rfl,rfl,trivial⟩ t1⟩
 ·have hb:=df hb
  refine ex_exit (xq ?_)
  refine exr (mV L rfl (aV L rfl (zn [(6,_)] [] t1 trivial (ex_ret ?_))))
  refine ⟨.inr rfl,ResVs.cast (.cons (.tmp rfl) .nil) ?_⟩
  rw [hx.good hb]
end Go.Proofs.YtjagfionflbjbaaGreat.N
namespace Go.Proofs.YtjagfionflbjbaaGreat.NumA
theorem mid_get {xs ys win zs:List Int}{j:Nat}(hl:ys.length=j)(hj:j<win.length):(xs++((ys++win.drop j)++zs)).getD (xs.length+j) 0=win.getD j 0:=by
  rw [drop_getD hj,List.getD_eq_getElem?_getD,List.getElem?_append_right (by omega),Nat.add_sub_cancel_left,List.getElem?_append_left (by simp; omega),List.getElem?_append_right (by omega),hl,Nat.sub_self]
  rfl
theorem mid_set {xs ys win zs:List Int}{j:Nat}(hl:ys.length=j)(hj:j<win.length)(d:Int):(xs++((ys++win.drop j)++zs)).set (xs.length+j) d=xs++(((ys++[d])++win.drop (j+1))++zs):=by
  rw [List.set_append_right _ _ (by omega),Nat.add_sub_cancel_left,List.set_append_left _ _ (by simp; omega),List.set_append_right _ _ (by omega),hl,Nat.sub_self,drop_getD hj,List.set_cons_zero]
  simp
theorem take_fin {win vs ys:List Int}{q c:Int}(h:Wd win)(hl:vs.length<win.length)(h2:Wd vs)(hq:0≤q∧q<4294967296)(ha:TakeAt win vs q (win.length,ys,c,0)):q*val vs≤val win∧ys=digN win.length (val win - q*val vs):=by
  obtain ⟨-,h4,h5⟩:=ha.end_ h hl h2 hq
  have hlen:=ha.len
  simp only at hlen
  rw [Int.mul_zero,Int.add_zero] at h4
  refine ⟨h5.1 rfl,?_⟩
  rw [← h4,← hlen]; exact (digN_val ha.wd).symm
theorem back_fin {win vs w1 ys:List Int}{q e:Int}(hlw:vs.length≤win.length)(h2:Wd vs)(hw1:val w1=val win - q*val vs+4294967296 ^ win.length*1)(hl1:w1.length=win.length)(ha:BackAt w1 vs (win.length,ys,e))(hq1:(q - 1)*val vs≤val win):ys=digN win.length (val win - (q - 1)*val vs)∧e=1:=by
  have heq:=ha.eq
  have hlen:=ha.len
  have hy:=ha.wd
  have hc:=ha.c
  simp only at heq hlen hy hc
  rw [List.take_of_length_le (show w1.length≤win.length by omega),List.take_of_length_le hlw,hw1] at heq
  have hv:=val_lt h2
  have hp:=powle hlw
  have hy0:=val_nonneg hy
  have hy1:=val_lt hy
  rw [hlen] at hy1
  rw [Int.sub_mul,Int.one_mul] at hq1 ⊢
  have he:e=1:=by
    rcases hc with e0 | e1
    · rw [e0,Int.mul_zero] at heq; omega
    · exact e1
  rw [he] at heq
  refine ⟨?_,he⟩
  have:val ys=val win - (q*val vs - val vs):=by omega
  rw [← this,← hlen]; exact (digN_val hy).symm
theorem back_more {win vs w1 ys:List Int}{q e:Int}(hlw:vs.length≤win.length)(h2:Wd vs)(hw1:val w1=val win - q*val vs+4294967296 ^ win.length*1)(hl1:w1.length=win.length)(h1:Wd w1)(hw:Wd win)(ha:BackAt w1 vs (win.length,ys,e))(hnot:¬ q*val vs≤val win):val ys=val win - (q - 1)*val vs+4294967296 ^ win.length*(1 - e)∧(1 - e=0↔(q - 1)*val vs≤val win):=by
  have heq:=ha.eq
  have hlen:=ha.len
  have hy:=ha.wd
  have hc:=ha.c
  simp only at heq hlen hy hc
  rw [List.take_of_length_le (show w1.length≤win.length by omega),List.take_of_length_le hlw,hw1] at heq
  have hv:=val_lt h2
  have hp:=powle hlw
  have hy0:=val_nonneg hy
  have hy1:=val_lt hy
  rw [hlen] at hy1
  rw [Int.sub_mul,Int.one_mul,Int.mul_sub]
  refine ⟨by omega,?_⟩
  rcases hc with e0 | e1
  · rw [e0,Int.mul_zero] at heq; rw [e0]; omega
  · rw [e1] at heq ⊢; omega
end Go.Proofs.YtjagfionflbjbaaGreat.NumA
set_option maxRecDepth 100000
set_option maxHeartbeats 4000000
namespace Go.Proofs.YtjagfionflbjbaaGreat.N
open Go Go.Proofs.YtjagfionflbjbaaGreat.SH Go.Proofs.YtjagfionflbjbaaGreat.NumA
open Go.Proofs.Tryz renaming call171→cl171,isAgg119→ag119,sizeOf119→sz119,underlying119→un119,underlying127→un127,underlying43→un43
theorem getM {xs ys win zs:List Int}{j:Nat}(hl:ys.length=j)(hj:j<win.length):(encW (xs++((ys++win.drop j)++zs)))[xs.length+j]? = some (.a (.int .u32 (win.getD j 0))):=by
 rw [getW sO,mid_get hl hj]
theorem take_says (xs win zs vs:List Int)(q:Int)(N:Nat)(hNN:xs.length+(win.length+zs.length)=N)(hN2:N<10000000000000)(h:Wd win)(hlw:win.length=vs.length+1)(h2:Wd vs)(hq:0≤q∧q<4294967296)(hq1:(q - 1)*val vs≤val win):SaysX E 160 [.ref 1000 0 N N,.p (pW vs),.p (vZ xs.length),.p (uZ q)] [(1000,⟨119,1,.pure (encW (xs++(win++zs)))⟩)] [(1000,⟨119,1,.pure (encW (xs++(digN win.length (val win - (if q*val vs≤val win then q else q - 1)*val vs)++zs)))⟩)] (bZ (decide (q*val vs≤val win))):=by
 refine saysX_of (xs:=[bZ (decide (q*val vs≤val win))]) Tryz.func160 rfl Tryz.ntmps160 Tryz.results160 sM rfl (sub_of rfl) fun F hG hX hnt hdf P0 hXp=>?_
 have L:=@lti _ _ hnt
 have hN:=ng_le hG
 refine exr (aV L rfl (zn [(0,_),(1,_),(2,_),(3,_)] [(1000,_)] t4 t1 (exr (aV L rfl (aV L rfl (zn [(0,_),(1,_),(2,_),(3,_),(9,_),(10,_)] [(1000,_)] t6 t1 (ex_seq (exr (mV L rfl (sw (c_ln un43 L) t1 t0 (mV L rfl ?_)))))))))))
 refine zn [(0,_),(1,_),(2,_),(3,_),(9,_),(10,_),(20,_),(21,_),(22,_)] [(1000,_)] t9 t1 (ex_block ?_)
 refine exl (α:=(Nat×List Int×Int×Int)) (fun x=>[(22,vi (x.1:Int)),(9,vw x.2.2.2),(10,vw x.2.2.1)]) (fun x=>[(1000,⟨119,1,.pure (encW (xs++((x.2.1++win.drop x.1)++zs)))⟩)]) (fun x=>TakeAt win vs q x∧x.1≤vs.length) (fun x=>vs.length - x.1) (((0:Nat),([]:List Int),(0:Int),(0:Int))) (sl:=[(0,_),(1,_),(2,_),(3,_),(20,_),(21,_)]) (hb:=[]) ?_ ⟨oR,oR,oR,rfl,rfl,rfl,rfl,rfl,rfl,trivial⟩ ⟨obl rfl sM,trivial⟩ ?_
 ·exact ⟨TakeAt.zero win vs q,Nat.zero_le _⟩
 intro x hx
 obtain ⟨j,ys,c,b⟩:=x
 obtain ⟨hx,hjl⟩:=hx
 have hlen:=hx.len
 have c0:=hx.c0
 have c1:=hx.c1
 have hb:=hx.b
 simp only at hlen hjl c0 c1 hb
 dsimp only
 have hu:=h.getD j
 refine exr (sw (c_ls L) t2 t0 (zn [(0,_),(1,_),(2,_),(3,_),(9,_),(10,_),(20,_),(21,_),(22,_),(23,_)] [(1000,_)] t10 t1 (ex_seq ?_)))
 refine ex_if rfl (fun he=>?_) (fun he=>?_)
 ·have he:=dt he
  have hw:=h2.getD j
  have tb:=take_bd hq hw ⟨c0,c1⟩
  have mb:=mul_bd hq hw
  have key:=hx.next h2 hq oM (p:=q*vs.getD j 0+c) rfl rfl rfl hu
  refine ex_skip (xq ?_)
  refine ex_seq (ex_block (exr (mV L rfl (sw (ixJ un43 sz119 (j:=j) rO oM sM L) t2 t0 ?_))))
  refine sw (c_li ag119 (by first | exact getW oM | rfl) L) t1 t0 ?_
  refine aV L rfl (aV L rfl (zn [(0,_),(1,_),(2,_),(3,_),(9,_),(10,_),(11,_),(12,_),(20,_),(21,_),(22,_)] [(1000,_)] t11 t1 (exr (mV L rfl (mV L rfl (sw (c_cv un119 un127 L (fu64 oM oM)) t1 t0 (sw (c_mu L (fu64 oM oM)) t2 t0 (mV L rfl (sw (c_ad L (fu64 oM oM)) t2 t0 (aV L rfl (zn [(0,_),(1,_),(2,_),(3,_),(9,_),(11,_),(13,_),(20,_),(21,_),(22,_)] [(1000,_)] t10 t1 ?_)))))))))))
  refine exr (mV L rfl (sw (c_sr L dC (shrE (c:=4294967296) rF dC)) t2 t0 ?_))
  refine aV L rfl (zn [(0,_),(1,_),(2,_),(3,_),(9,_),(10,_),(11,_),(13,_),(20,_),(21,_),(22,_)] [(1000,_)] t11 t1 (exr (mV L rfl (mV L rfl (mV L rfl (sw (c_ad L (w64 oM oM)) t2 t0 (sw (ixR0 un43 sz119 (by exact sO) (j:=xs.length+j) rO oM L) t2 t1 ?_)))))))
  refine sw (c_l1 ag119 (by exact sO) (getC (getM hlen oM)) L) t1 t1 ?_
  refine sw (c_cv un119 un127 L (fu64 oM oM)) t1 t0 (mV L rfl (sw (c_an L (and32 oM oM)) t2 t0 (mV L rfl (sw (core_sub64 s64 oM oM oM rfl rfl L) t3 t0 (mV L rfl (sw (c_ex rfl L) t1 t0 (sw (c_ex rfl L) t1 t0 (aV L rfl (aV L rfl (zn [(0,_),(1,_),(2,_),(3,_),(10,_),(11,_),(14,_),(15,_),(20,_),(21,_),(22,_)] [(1000,_)] t11 t1 (exr ?_)))))))))))
  refine mV L rfl (mV L rfl (mV L rfl (sw (c_ad L (w64 oM oM)) t2 t0 (mV L rfl (sw (c_cv un127 un119 L (show _=(win.getD j 0 - (q*vs.getD j 0+c) % 4294967296 - b) % 4294967296 by rw [wu32]; omega)) t1 t0 ?_)))))
  refine sw (ixR0 un43 sz119 (by exact sO) (j:=xs.length+j) rO oM L) t2 t1 ?_
  refine sb (c_s1 sz119 (by exact sO) (.atom rfl) oM) t2 t1 ?_
  refine zn [(0,_),(1,_),(2,_),(3,_),(10,_),(15,_),(20,_),(21,_),(22,_)] [(1000,_)] t9 t1 (exr0 (mV L rfl (aV L rfl (seq_nil (exr0 (sw (c_ad L (w64 oM oM)) t2 t0 (mV L rfl (seq_nil ?_))))))))
  exact ⟨(j+1,ys++[(win.getD j 0 - (q*vs.getD j 0+c) % 4294967296 - b) % 4294967296],(q*vs.getD j 0+c) / 4294967296,if win.getD j 0<(q*vs.getD j 0+c) % 4294967296+b then 1 else 0),⟨key,by simp only; omega⟩,(by simp only; omega),le_of ⟨oR,oR,oR,rfl,rfl,rfl,rfl,rfl,rfl,trivial⟩ ⟨obl rfl (by rw [encW_set,mid_set hlen oM]),trivial⟩⟩
 ·have he:=df he
  have hj:j=vs.length:=by omega
  subst hj
  have ec:c % 4294967296=c:=Int.emod_eq_of_lt c0 c1
  have key:=hx.next h2 hq oM (p:=c) (d:=(win.getD vs.length 0 - c - b) % 4294967296) (b':=if win.getD vs.length 0<c+b then 1 else 0) (by rw [getD_out (Nat.le_refl _)]; simp) (by rw [ec]) (by rw [ec]) hu
  rw [← hlw] at key
  have hw1:=key.wd
  have hl1:=key.len
  have hb1:=key.b
  simp only at hw1 hl1 hb1
  obtain ⟨w1,hw1e⟩:∃ w1,w1=ys++[(win.getD vs.length 0 - c - b) % 4294967296]:=⟨_,rfl⟩
  obtain ⟨b1,hb1e⟩:∃ b1:Int,b1=if win.getD vs.length 0<c+b then 1 else 0:=⟨_,rfl⟩
  rw [← hw1e,← hb1e] at key
  rw [← hw1e] at hw1 hl1
  rw [← hb1e] at hb1
  obtain ⟨-,hk2,hk3⟩:=key.end_ h oM h2 hq
  have hmid:=mid_set (xs:=xs) (zs:=zs) hlen (show vs.length<win.length by omega) ((win.getD vs.length 0 - c - b) % 4294967296)
  rw [← hw1e,List.drop_of_length_le (show win.length≤vs.length+1 by omega),List.append_nil] at hmid
  refine ex_exit (xq ?_)
  refine exr (mV L rfl (mV L rfl (mV L rfl (sw (c_ln un43 L) t1 t0 (sw (c_ad L (w64 oM oM)) t2 t0 (sw (ixR0 un43 sz119 (by exact sO) (j:=xs.length+vs.length) rO oM L) t2 t1 ?_))))))
  refine sw (c_l1 ag119 (by exact sO) (getC (getM hlen oM)) L) t1 t1 ?_
  refine sw (c_cv un119 un127 L (fu64 oM oM)) t1 t0 (mV L rfl (mV L rfl (sw (core_sub64 s64 oM oM oM rfl rfl L) t3 t0 (mV L rfl (sw (c_ex rfl L) t1 t0 (sw (c_ex rfl L) t1 t0 (aV L rfl (aV L rfl (zn [(0,_),(1,_),(2,_),(9,_),(16,_)] [(1000,_)] t5 t1 ?_)))))))))
  rw [← hb1e]
  refine exr (mV L rfl (mV L rfl (mV L rfl (sw (c_ln un43 L) t1 t0 (sw (c_ad L (w64 oM oM)) t2 t0 (mV L rfl (sw (c_cv un127 un119 L (show _=(win.getD vs.length 0 - c - b) % 4294967296 by rw [wu32]; omega)) t1 t0 ?_)))))))
  refine sw (ixR0 un43 sz119 (by exact sO) (j:=xs.length+vs.length) rO oM L) t2 t1 ?_
  refine sb (c_s1 sz119 (by exact sO) (.atom rfl) oM) t2 t1 ?_
  refine zn [(0,_),(1,_),(2,_),(9,_)] [(1000,_)] t4 t1 ?_
  rw [encW_set,hmid]
  refine ex_seq (exr (mV L rfl (sw (c_e L) t2 t0 (zn [(0,_),(1,_),(2,_),(81,_)] [(1000,_)] t4 t1 ?_))))
  refine ex_if rfl (fun hz=>?_) (fun hz=>?_)
  ·have hz:=dt hz
   rw [hz] at key
   have hf:=take_fin h oM h2 hq key
   refine exr (aV L rfl (zn [(8,_)] [(1000,_)] t1 t1 (ex_ret ?_)))
   refine ⟨.inr rfl,ResVs.cast (.cons (.tmp rfl) .nil) ?_,⟨obl rfl (by rw [if_pos hf.1,hf.2]),trivial⟩⟩
   rw [decide_eq_true hf.1]
  ·have hz:=df hz
   have hb11:b1=1:=by omega
   have hnot:¬ q*val vs≤val win:=fun hh=>hz (hk3.2 hh)
   rw [hb11] at hk2
   refine ex_skip (xq ?_)
   refine exr (aV L rfl (zn [(0,_),(1,_),(2,_),(17,_)] [(1000,_)] t4 t1 (ex_seq (exr (mV L rfl (sw (c_ln un43 L) t1 t0 (mV L rfl (zn [(0,_),(1,_),(2,_),(17,_),(82,_),(83,_),(84,_)] [(1000,_)] t7 t1 (ex_block ?_)))))))))
   refine exl (α:=(Nat×List Int×Int)) (fun y=>[(84,vi (y.1:Int)),(17,vu y.2.2)]) (fun y=>[(1000,⟨119,1,.pure (encW (xs++((y.2.1++w1.drop y.1)++zs)))⟩)]) (fun y=>BackAt w1 vs y∧y.1≤vs.length) (fun y=>vs.length - y.1) (((0:Nat),([]:List Int),(0:Int))) (sl:=[(0,_),(1,_),(2,_),(82,_),(83,_)]) (hb:=[]) ?_ ⟨oR,oR,rfl,rfl,rfl,rfl,rfl,trivial⟩ ⟨obl rfl sM,trivial⟩ ?_
   ·exact ⟨BackAt.zero w1 vs,Nat.zero_le _⟩
   intro y hy
   obtain ⟨k,zs2,e⟩:=y
   obtain ⟨hy,hkl⟩:=hy
   have hlen2:=hy.len
   have hec:=hy.c
   simp only at hlen2 hec hkl
   dsimp only
   have hu1:=hw1.getD k
   refine exr (sw (c_ls L) t2 t0 (zn [(0,_),(1,_),(2,_),(17,_),(82,_),(83,_),(84,_),(85,_)] [(1000,_)] t8 t1 (ex_seq ?_)))
   refine ex_if rfl (fun hf=>?_) (fun hf=>?_)
   ·have hf:=dt hf
    have hw:=h2.getD k
    refine ex_skip (xq ?_)
    refine ex_seq (ex_block (exr (mV L rfl (sw (ixJ un43 sz119 (j:=k) rO oM sM L) t2 t0 ?_))))
    refine sw (c_li ag119 (by first | exact getW oM | rfl) L) t1 t0 ?_
    refine aV L rfl (aV L rfl (zn [(0,_),(1,_),(2,_),(17,_),(18,_),(19,_),(82,_),(83,_),(84,_)] [(1000,_)] t9 t1 (exr0 (mV L rfl (mV L rfl (mV L rfl (sw (c_ad L (w64 oM oM)) t2 t0 (mV L rfl (mV L rfl (mV L rfl (sw (c_ad L (w64 oM oM)) t2 t0 ?_)))))))))))
    refine sw (ixR0 un43 sz119 (by exact sO) (j:=xs.length+k) rO oM L) t2 t1 ?_
    refine sw (c_l1 ag119 (by exact sO) (getC (getM hlen2 oM)) L) t1 t1 ?_
    refine mV L rfl (mV L rfl (cK hG hX cl171 hN (add32_says (w1.getD k 0) (vs.getD k 0) e hu1 hw oM) L t3 (mV L rfl (sw (c_ex rfl L) t1 t0 (sw (c_ex rfl L) t1 t0 (sw (ixR0 un43 sz119 (by exact sO) (j:=xs.length+k) rO oM L) t2 t1 ?_))))))
    refine sb (c_s1 sz119 (by exact sO) (.atom rfl) oM) t2 t1 ?_
    refine aV L rfl (seq_nil (exr0 (sw (c_ad L (w64 oM oM)) t2 t0 (mV L rfl (seq_nil ?_)))))
    exact ⟨(k+1,zs2++[(w1.getD k 0+vs.getD k 0+e) % 4294967296],(w1.getD k 0+vs.getD k 0+e) / 4294967296),⟨hy.next hw1 h2 oM rfl,by simp only; omega⟩,(by simp only; omega),le_of ⟨oR,oR,rfl,rfl,rfl,rfl,rfl,trivial⟩ ⟨obl rfl (by rw [encW_set,mid_set hlen2 oM]),trivial⟩⟩
   ·have hf:=df hf
    have hk:k=vs.length:=by omega
    subst hk
    have key2:=hy.next hw1 h2 oM (s:=w1.getD vs.length 0+e) (by rw [getD_out (Nat.le_refl vs.length)]; omega)
    rw [← hlw] at key2
    have hfin:=back_fin oM h2 hk2 hl1 key2 hq1
    have hmid2:=mid_set (xs:=xs) (zs:=zs) hlen2 (show vs.length<w1.length by omega) ((w1.getD vs.length 0+e) % 4294967296)
    rw [List.drop_of_length_le (show w1.length≤vs.length+1 by omega),List.append_nil,hfin.1] at hmid2
    refine ex_exit (xq ?_)
    refine exr (mV L rfl (mV L rfl (mV L rfl (sw (c_ln un43 L) t1 t0 (sw (c_ad L (w64 oM oM)) t2 t0 (sw (ixR0 un43 sz119 (by exact sO) (j:=xs.length+vs.length) rO oM L) t2 t1 ?_))))))
    refine sw (c_l1 ag119 (by exact sO) (getC (getM hlen2 oM)) L) t1 t1 ?_
    refine mV L rfl (sw (c_ad L wu32) t2 t0 (sw (ixR0 un43 sz119 (by exact sO) (j:=xs.length+vs.length) rO oM L) t2 t1 ?_))
    refine sb (c_s1 sz119 (by exact sO) (.atom rfl) oM) t2 t1 ?_
    refine zn [] [(1000,_)] trivial t1 ?_
    rw [encW_set,hmid2]
    refine exr (aV L rfl (zn [(8,_)] [(1000,_)] t1 t1 (ex_ret ?_)))
    refine ⟨.inr rfl,ResVs.cast (.cons (.tmp rfl) .nil) ?_,⟨obl rfl (by rw [if_neg hnot]),trivial⟩⟩
    rw [decide_eq_false hnot]
end Go.Proofs.YtjagfionflbjbaaGreat.N
namespace Go.Proofs.YtjagfionflbjbaaGreat.NumA
def partQ (ws vs:List Int):List Int:=if cmpI (val ws) (val vs)<0 then [] else if ws.length≤2 then digN 2 (val ws / val vs) else if vs.length=1 then digN ws.length (val ws / val vs) else digN (ws.length - vs.length+1) (val ws / val vs)
def partR (ws vs:List Int):List Int:=if cmpI (val ws) (val vs)<0 then ws else if ws.length≤2 then digN 2 (val ws % val vs) else if vs.length=1 then [val ws % val vs] else digN vs.length (val ws % val vs)
theorem cmpI_neg {a b:Int}:cmpI a b<0↔a<b:=by unfold cmpI; split <;> (try split) <;> omega
theorem Bsucc (n:Nat):(4294967296:Int) ^ (n+1)=4294967296 ^ n*4294967296:=Int.pow_succ _ _
theorem shifted_lt {ws:List Int}(h:Wd ws){k:Nat}(hk:k≤32):0≤val ws*2 ^ k∧val ws*2 ^ k<4294967296 ^ (ws.length+1):=by
  have h1:=val_lt h
  have h0:=val_nonneg h
  have hp:(0:Int)<2 ^ k:=Int.pow_pos (by decide)
  have h2:val ws*2 ^ k<4294967296 ^ ws.length*2 ^ k:=Int.mul_lt_mul_of_pos_right h1 hp
  have h3:(4294967296:Int) ^ ws.length*2 ^ k≤4294967296 ^ ws.length*4294967296:=Int.mul_le_mul_of_nonneg_left (pow32 hk) (Int.le_of_lt (Bpos _))
  rw [Bsucc]
  exact ⟨Int.mul_nonneg h0 (Int.le_of_lt hp),by omega⟩
theorem part_start {ws vs : List Int} {m k : Nat} (h : Wd ws) (h2 : Wd vs) (ht2 : Tr vs) (hm : vs.length = m + 2) (hk : k + bl (vs.getD (vs.length - 1) 0).toNat = 32) (hle : vs.length ≤ ws.length) :
    k<32∧0<val vs∧0<val vs*2 ^ k∧val vs*2 ^ k<4294967296 ^ (m+2)∧val (digN (m+2) (val vs*2 ^ k))=val vs*2 ^ k∧(digN (m+3) (val vs*2 ^ k)).take (m+2)=digN (m+2) (val vs*2 ^ k)∧2147483648≤(digN (m+2) (val vs*2 ^ k)).getD (m+1) 0∧val (digN (ws.length+1) (val ws*2 ^ k))=val ws*2 ^ k ∧
    PartAt (digN (ws.length+1) (val ws*2 ^ k)) (m+2) (val vs*2 ^ k) (ws.length+1 - (m+2),val ((digN (ws.length+1) (val ws*2 ^ k)).drop (ws.length+1 - (m+2))),[]):=by
  have hn:vs≠[]:=by intro e; rw [e] at hm; simp at hm
  obtain ⟨n1,n2,n3⟩:=norm_bd h2 ht2 hn hk
  have hw:=shifted_lt h (Nat.le_of_lt n3)
  have hp:(0:Int)<2 ^ k:=Int.pow_pos (by decide)
  have hB:=Bpos (vs.length - 1)
  have hDpos:0<val vs*2 ^ k:=by omega
  have hv:0<val vs:=by
    by_cases e:0<val vs
    · exact e
    · have:=val_nonneg h2
      rw [show val vs=0 by omega,Int.zero_mul] at hDpos; omega
  rw [hm] at n2
  rw [hm,show m+2 - 1=m+1 by omega] at n1
  have e1:=val_digN (n:=m+2) (Int.le_of_lt hDpos) n2
  have e2:=val_digN hw.1 hw.2
  have e3:(digN (m+3) (val vs*2 ^ k)).take (m+2)=digN (m+2) (val vs*2 ^ k):=by
    rw [digN_top (Int.le_of_lt hDpos) n2,List.take_append_of_le_length (by rw [digN_length]; exact Nat.le_refl _),List.take_of_length_le (by rw [digN_length]; exact Nat.le_refl _)]
  have e4:=top_bit (digN_wd (m+2) (val vs*2 ^ k)) (n:=m+1) (by rw [digN_length]) (by rw [e1]; exact n1)
  refine ⟨n3,hv,hDpos,n2,e1,e3,e4,e2,?_⟩
  have hWd:=digN_wd (ws.length+1) (val ws*2 ^ k)
  have hWl:=digN_length (ws.length+1) (val ws*2 ^ k)
  generalize digN (ws.length+1) (val ws*2 ^ k)=W at *
  have hd:=drop_bd hWd (i:=W.length - (m+2)) (by omega)
  rw [← hWl]
  refine PartAt.start hWd (by omega) ?_
  generalize val (List.drop (W.length - (m+2)) W)=x at *
  by_cases c:x<val vs*2 ^ k
  · exact c
  · have g1:4294967296 ^ (W.length - (m+2))*(2147483648*4294967296 ^ (m+1))≤4294967296 ^ (W.length - (m+2))*x:=Int.mul_le_mul_of_nonneg_left (by omega) (Int.le_of_lt (Bpos _))
    have g2:(4294967296:Int) ^ (W.length - (m+2))*(2147483648*4294967296 ^ (m+1))=2147483648*4294967296 ^ ws.length:=by
      rw [show (4294967296:Int) ^ (W.length - (m+2))*(2147483648*4294967296 ^ (m+1))=2147483648*(4294967296 ^ (W.length - (m+2))*4294967296 ^ (m+1)) by grind,← Int.pow_add,show W.length - (m+2)+(m+1)=ws.length by omega]
    have g3:=Int.mul_lt_mul_of_pos_right (val_lt h) hp
    have g4:(2:Int) ^ k≤2147483648:=by
      have h2:((2 ^ k:Nat):Int)≤((2 ^ 31:Nat):Int):=Int.ofNat_le.2 (Nat.pow_le_pow_right (by decide) (by omega))
      rw [Int.natCast_pow] at h2
      exact h2
    have g5:(4294967296:Int) ^ ws.length*2 ^ k≤4294967296 ^ ws.length*2147483648:=Int.mul_le_mul_of_nonneg_left g4 (Int.le_of_lt (Bpos _))
    omega
theorem take_result {V D q:Int}(hD:0<D)(h1:V / D≤q)(h2:(q - 1)*D≤V):(if q*D≤V then q else q - 1)=V / D∧V - V / D*D=V % D:=by
  have h3:=Int.mul_ediv_add_emod V D
  rw [Int.mul_comm] at h3
  refine ⟨?_,by omega⟩
  split
  · rename_i e
    have:=(Int.le_ediv_iff_mul_le hD).2 e
    omega
  · rename_i e
    have h4:=(Int.le_ediv_iff_mul_le hD).2 h2
    have h5:V / D≠q:=fun hq=>e (by rw [← hq]; have:=Int.emod_nonneg V (show D≠0 by omega); omega)
    omega
theorem part_mid {xs win zs:List Int}{i j:Nat}(hx:xs.length=i)(hj:j<win.length):(xs++(win++zs)).getD (i+j) 0=win.getD j 0:=by
  have:=mid_get (xs:=xs) (zs:=zs) (ys:=[]) (j:=j) (win:=win.drop 0)
  subst hx
  rw [List.getD_eq_getElem?_getD,List.getElem?_append_right (by omega),Nat.add_sub_cancel_left,List.getElem?_append_left hj,← List.getD_eq_getElem?_getD]
theorem q_set {i:Nat}{qs:List Int}(w:Int):(List.replicate (i+1) 0++qs).set i w=List.replicate i 0++w :: qs:=by
  rw [List.replicate_succ',List.append_assoc,List.set_append_right _ _ (by simp),List.length_replicate,Nat.sub_self,List.singleton_append,List.set_cons_zero]
theorem part_spec {ws vs:List Int}(h:Wd ws)(h2:Wd vs)(ht:Tr ws)(ht2:Tr vs)(hv:0<val vs):Wd (partQ ws vs)∧Wd (partR ws vs)∧val (partQ ws vs)=val ws / val vs∧val (partR ws vs)=val ws % val vs∧(partQ ws vs).length≤ws.length+2∧(partR ws vs).length≤ws.length+2:=by
  have a0:=val_nonneg h
  have q0:=Int.ediv_nonneg a0 (Int.le_of_lt hv)
  have q1:=Int.ediv_le_self (val vs) a0
  have r0:=Int.emod_nonneg (val ws) (show val vs≠0 by omega)
  have r1:=Int.emod_lt_of_pos (val ws) hv
  unfold partQ partR
  split
  · rename_i e
    rw [cmpI_neg] at e
    exact ⟨Wd.nil,h,by rw [Int.ediv_eq_zero_of_lt a0 e]; rfl,by rw [Int.emod_eq_of_lt a0 e],by simp,by omega⟩
  · rename_i e
    rw [cmpI_neg] at e
    split
    · rename_i hl
      have:=small2 h hl
      refine ⟨digN_wd _ _,digN_wd _ _,val_digN q0 (by simp; omega),val_digN r0 (by simp; omega),by simp [digN_length],by simp [digN_length]⟩
    · split
      · rename_i hl
        have hb:=val_lt1 h2 (by omega)
        refine ⟨digN_wd _ _,Wd.cons.2 ⟨⟨r0,by omega⟩,Wd.nil⟩,val_digN q0 (by have:=val_lt h; omega),by simp [val],by simp [digN_length],by simp⟩
      · have hlen:=len_le h h2 ht2 (by omega)
        refine ⟨digN_wd _ _,digN_wd _ _,val_digN q0 ?_,val_digN r0 (by have:=val_lt h2; omega),by rw [digN_length]; omega,by rw [digN_length]; omega⟩
        have hn:vs≠[]:=by intro c; rw [c] at hv; simp [val] at hv
        have hl2:0<vs.length:=List.length_pos_iff.2 hn
        have hbig:4294967296 ^ (vs.length - 1)≤val vs:=by
          have e1:=val_take_succ' (ws:=vs) (vs.length - 1)
          rw [show vs.length - 1+1=vs.length by omega,List.take_length] at e1
          have e2:=val_nonneg (h2.take (vs.length - 1))
          have e3:=h2.getD (vs.length - 1)
          have e4:vs.getD (vs.length - 1) 0≠0:=by
            rcases ht2 with c | c
            · omega
            · exact c
          have e5:(4294967296:Int) ^ (vs.length - 1)*1≤4294967296 ^ (vs.length - 1)*vs.getD (vs.length - 1) 0:=Int.mul_le_mul_of_nonneg_left (by omega) (Int.le_of_lt (Bpos _))
          omega
        refine Int.ediv_lt_of_lt_mul hv ?_
        have e6:(4294967296:Int) ^ (ws.length - vs.length+1)*4294967296 ^ (vs.length - 1)≤4294967296 ^ (ws.length - vs.length+1)*val vs:=Int.mul_le_mul_of_nonneg_left hbig (Int.le_of_lt (Bpos _))
        rw [← Int.pow_add,show ws.length - vs.length+1+(vs.length - 1)=ws.length by omega] at e6
        have:=val_lt h
        omega
end Go.Proofs.YtjagfionflbjbaaGreat.NumA
namespace Go.Proofs.YtjagfionflbjbaaGreat.NumA
theorem tail_get {ys L:List Int}{j i:Nat}(hl:ys.length=j):(ys++L.drop j).getD (j+i) 0=L.getD (j+i) 0:=by
  rw [List.getD_eq_getElem?_getD,List.getElem?_append_right (by omega),hl,Nat.add_sub_cancel_left,List.getElem?_drop,List.getD_eq_getElem?_getD]
theorem tail_set {ys L:List Int}{j:Nat}(hl:ys.length=j)(hj:j<L.length)(d:Int):(ys++L.drop j).set j d=(ys++[d])++L.drop (j+1):=by
  rw [List.set_append_right _ _ (by omega),hl,Nat.sub_self,drop_getD hj,List.set_cons_zero]
  simp
theorem rest_zero {W:List Int}{n:Nat}{R:Int}:restAt W n 0 R=digN n R++List.replicate (W.length - n) 0:=by simp [restAt]
theorem un_end {L ys:List Int}{n s k:Nat}{R:Int}(hL:L=digN n R++List.replicate s 0)(h0:0≤R)(h1:R<4294967296 ^ n)(ha:UnAt L k (n,ys)):ys=digN n (R / 2 ^ k):=by
  have heq:=ha.eq
  have hlen:=ha.len
  simp only at heq hlen
  have e1:L.drop n=List.replicate s 0:=by
    rw [hL,List.drop_append_of_le_length (by rw [digN_length]; exact Nat.le_refl _),List.drop_of_length_le (by rw [digN_length]; exact Nat.le_refl _),List.nil_append]
  have e2:val L=R:=by rw [hL,val_append,val_rep,Int.mul_zero,val_digN h0 h1,Int.add_zero]
  rw [e1,e2,val_rep,Int.zero_ediv,Int.mul_zero,Int.add_zero] at heq
  rw [← heq,← hlen]; exact (digN_val ha.wd).symm
end Go.Proofs.YtjagfionflbjbaaGreat.NumA
set_option maxRecDepth 100000
set_option maxHeartbeats 4000000
namespace Go.Proofs.YtjagfionflbjbaaGreat.N
open Go Go.Proofs.YtjagfionflbjbaaGreat.SH Go.Proofs.YtjagfionflbjbaaGreat.NumA
open Go.Proofs.Tryz renaming call141→cl141,call150→cl150,call155→cl155,call156→cl156,call157→cl157,call158→cl158,call159→cl159,call160→cl160,isAgg119→ag119,sizeOf119→sz119,typeInfo119→ti119,underlying119→un119,underlying127→un127,underlying146→un146,underlying43→un43,zeroValue146→zv146
theorem getP {xs win zs:List Int}{i j:Nat}(hx:xs.length=i)(hj:j<win.length):(encW (xs++(win++zs)))[i+j]? = some (.a (.int .u32 (win.getD j 0))):=by
 rw [getW sO,part_mid hx hj]
theorem getU {ys L:List Int}{j i p q:Nat}(hl:ys.length=j)(hp:p=q)(hq:q=j+i)(hj:q<L.length):(encW (ys++L.drop j))[p]? = some (.a (.int .u32 (L.getD q 0))):=by
 subst hp hq
 rw [getW sO,tail_get hl]
theorem parted_says (ws vs:List Int)(hl:ws.length<4000000000000)(hl2:vs.length<4000000000000)(h:Wd ws)(h2:Wd vs)(ht:Tr ws)(ht2:Tr vs)(hv:0<val vs):Says E 151 [pW ws,pW vs] (.tup [pW (partQ ws vs),pW (partR ws vs)]):=by
 refine says_of (xs:=[pW (partQ ws vs),pW (partR ws vs)]) Tryz.func151 rfl Tryz.ntmps151 Tryz.results151 sM fun F hG hX0 hnt hdf P0=>?_
 obtain ⟨L,hX,hN⟩:=pro hnt hX0 hG
 have a0:=val_nonneg h
 have q0:=Int.ediv_nonneg a0 (Int.le_of_lt hv)
 have q1:=Int.ediv_le_self (val vs) a0
 have r0:=Int.emod_nonneg (val ws) (show val vs≠0 by omega)
 have r1:=Int.emod_lt_of_pos (val ws) hv
 refine exr (aV L rfl (aV L rfl (zn [(0,_),(1,_)] [] t2 trivial (ex_seq (exr (mV L rfl (mV L rfl (cK hG hX cl141 hN (compared_says ws vs oM oM h h2 ht ht2) L t2 (sw (c_ls L) t2 t0 (zn [(0,_),(1,_),(20,_)] [] t3 trivial ?_))))))))))
 refine ex_if rfl (fun hc=>?_) (fun hc=>?_)
 ·have hc:=dt hc
  refine exr (mV L rfl (aV L rfl (aV L rfl (zn [(4,_),(5,_)] [] t2 trivial (ex_cv [] (sl:=[(4,_),(5,_)]) (hb:=[]) (own_none hX0) ⟨⟨_,rfl,(.p .nil)⟩,⟨_,rfl,.same⟩,trivial⟩ t0 (ex_ret ?_))))))
  refine ⟨.inr rfl,ResVs.cast (.cons (.tmp rfl) (.cons (.tmp rfl) .nil)) ?_⟩
  simp only [partQ,partR,if_pos hc]; rfl
 ·have hc:=df hc
  have hge:val vs≤val ws:=by rw [cmpI_neg] at hc; omega
  have hlen:=len_le h h2 ht2 hge
  refine ex_skip (xq ?_)
  refine ex_seq (exr (mV L rfl (cK hG hX cl150 hN (pair_says ws oM h) L t1 (mV L rfl (sw (c_ex rfl L) t1 t0 (sw (c_ex rfl L) t1 t0 (aV L rfl (aV L rfl (zn [(0,_),(1,_),(6,_),(7,_)] [] t4 trivial (exr (mV L rfl ?_)))))))))))
  refine zn [(0,_),(1,_),(6,_),(27,_)] [] t4 trivial ?_
  refine ex_if rfl (fun hp=>?_) (fun hp=>?_)
  ·have hp:=dt hp
   have s1:=small2 h hp
   have s2:=small2 h2 oM
   rw [if_pos hp]
   refine exr (mV L rfl (cK hG hX cl150 hN (pair_says vs oM h2) L t1 (mV L rfl (sw (c_ex rfl L) t1 t0 (sw (c_ex rfl L) t1 t0 (aV L rfl (aV L rfl (zn [(6,_),(8,_)] [] t2 trivial ?_))))))))
   rw [if_pos (show vs.length≤2 by omega)]
   refine exd rF ?_
   refine mV L rfl (mV L rfl (sw (c_q L oM (tdivE a0 oM)) t2 t0 (cK hG hX cl155 hN (words_says (val ws / val vs) q0 oM) L t1 (mV L rfl (mV L rfl (sw (c_r L oM (tmodE a0 oM)) t2 t0 (cK hG hX cl155 hN (words_says (val ws % val vs) r0 oM) L t1 (aV L rfl (aV L rfl ?_)))))))))
   refine seq_nil ⟨aoks [⟨[6],[],[33],[]⟩,⟨[8],[],[34],[]⟩,⟨[33,34],[],[35],[]⟩,⟨[35],[],[36],[]⟩,⟨[6],[],[37],[]⟩,⟨[8],[],[38],[]⟩,⟨[37,38],[],[39],[]⟩,⟨[39],[],[40],[]⟩,⟨[36],[],[4],[]⟩,⟨[40],[],[5],[]⟩] rF rF dC,[(4,_),(5,_)],[],t2,trivial,?_⟩
   refine ex_ret ?_
   refine ⟨.inr rfl,ResVs.cast (.cons (.tmp rfl) (.cons (.tmp rfl) .nil)) ?_⟩
   simp only [partQ,partR,if_neg hc,if_pos hp]
  ·have hp:=df hp
   refine ex_skip (xq ?_)
   refine ex_seq (exr (mV L rfl (sw (c_ln un43 L) t1 t0 (sw (c_e L) t2 t0 (zn [(0,_),(1,_),(43,_)] [] t3 trivial ?_)))))
   refine ex_if rfl (fun h1=>?_) (fun h1=>?_)
   ·have h1:=dt h1
    have hl1:vs.length=1:=by omega
    have hv1:=val_one hl1
    have hvb:=val_lt1 h2 oM
    refine exr (mV L rfl (sw (c_ln un43 L) t1 t0 (swb (c_mk (k:=46) un43 ti119 rfl rfl rfl rfl rfl rfl (Nat.le_refl _) (by simp [Tryz.t119]; omega) oM (P0 _ rfl) L) t2 t0 ⟨rfl,rfl⟩ ?_)))
    refine aV L rfl (zn [(0,_),(1,_),(4,_)] [(46,_)] t3 t1 (exr (mV L rfl (mV L rfl (swb (c_cp un43 ti119 (by exact List.length_replicate) rfl sM L) t2 t1 t0 ?_)))))
    refine seq_nil ⟨[(1,_),(4,_)],[(46,⟨119,1,.pure (encW ws)⟩)],t2,⟨obl rfl (by rw [List.take_of_length_le sM,List.drop_of_length_le sM,List.append_nil]),trivial⟩,?_⟩
    refine exr (mV L rfl (mV L rfl (mV L rfl (sw (ixJ un43 sz119 (j:=0) rfl oM sM L) t2 t0 ?_))))
    refine sw (c_li ag119 (by first | exact getW oM | rfl) L) t1 t0 ?_
    refine swB (c_cx hG hX [46] hN (short_says ws (vs.getD 0 0) oM h oM) rfl (args_fn (ys:=[_,_]) cl156 rfl rF) rF rF rF rF (SameH.to (.cons (len_pure (by simp [digN_length])) .nil)) rF rF L) t2 t1 ?_
    refine sw (c_bI (vs:=[_]) un43 ti119 rfl rfl dC dC rfl (zs_made (.cons rfl .nil) rfl) rfl (.cons rfl (.atom rfl) rfl pu1 .nil) (.cons .nil) L) t1 t0 (aV L rfl (aV L rfl (zn [(4,_),(5,_)] [(46,_)] t2 t1 (ex_cv [46] (sl:=[(4,_),(5,_)]) (hb:=[]) (own_none hX0) ⟨⟨_,rfl,(.ref rfl rfl (by exact (by simp [digN_length])) (by first | rfl | omega))⟩,⟨_,rfl,.same⟩,trivial⟩ t0 ?_))))
    refine ex_ret ?_
    refine ⟨.inr rfl,ResVs.cast (.cons (.tmp rfl) (.cons (.tmp rfl) .nil)) ?_⟩
    simp only [partQ,partR,if_neg hc,if_neg hp,if_pos hl1]; rw [hv1]; simp [digN_length,encW]
   ·have h1:=df h1
    have htw:=h2.getD (vs.length - 1)
    have hbl:=bl32 htw.2
    have hvn:vs.length≠0:=by
     intro e
     rw [List.eq_nil_of_length_eq_zero e] at hv; simp [val] at hv
    obtain ⟨m,hm⟩:∃ m,vs.length=m+2:=⟨vs.length - 2,by omega⟩
    refine ex_skip (xq ?_)
    refine exr (mV L rfl (mV L rfl (sw (c_ln un43 L) t1 t0 (sw (c_su L (w64 oM oM)) t2 t0 (sw (ixJ un43 sz119 (j:=vs.length - 1) rO oM sM L) t2 t0 ?_)))))
    refine sw (c_li ag119 (by first | exact getW oM | rfl) L) t1 t0 ?_
    refine cK hG hX cl157 hN (lz_says (vs.getD (vs.length - 1) 0) htw.1 htw.2) L t1 (aV L rfl (zn [(0,_),(1,_),(10,_)] [] t3 trivial ?_))
    obtain ⟨k,hk⟩:∃ k:Nat,k+bl (vs.getD (vs.length - 1) 0).toNat=32:=⟨32 - bl (vs.getD (vs.length - 1) 0).toNat,by omega⟩
    have ek:(32 - (bl (vs.getD (vs.length - 1) 0).toNat:Int))=(k:Int):=by omega
    rw [ek]
    obtain ⟨k32,-,hDpos,hDlt,hDv,htake,htop,hWv,hstart⟩:=part_start h h2 ht2 hm hk hlen
    refine exd rF ?_
    refine mV L rfl (mV L rfl (swb (c_co (k:=66) hG hX cl158 rfl hN (shifted_says ws k oM h k32) (P0 _ rfl) L) t2 t0 ⟨rfl,rfl⟩ (mV L rfl (mV L rfl (swb (c_co (k:=69) hG hX cl158 rfl hN (shifted_says vs k oM h2 k32) (P0 _ rfl) L) t2 t0 ⟨rfl,rfl⟩ (mV L rfl (sw (c_ln un43 L) t1 t0 (sw (slR_hi un43 sz119 rfl (by exact (by first | (simp [digN_length]; done) | (simp; omega))) (by first | exact rfl | exact ixn oM) oM L) t2 t1 ?_))))))))
    refine aV L rfl (aV L rfl ?_)
    refine seq_nil ⟨aok rfl rfl,[(0,_),(1,_),(10,_),(11,_),(12,_)],[(66,_),(69,_)],t5,t2,?_⟩
    refine ex_cv [69] (sl:=[(0,_),(1,_),(10,_),(11,_),(12,_)]) (hb:=[(66,_)]) (own_none hX0) ⟨⟨_,rfl,.same⟩,⟨_,rfl,.same⟩,⟨_,rfl,.same⟩,⟨_,rfl,.same⟩,⟨_,rfl,(.refo rfl rfl (by exact (by first | (simp [digN_length]; done) | (simp; omega))) rfl)⟩,trivial⟩ ⟨⟨rfl,_,rfl,.same⟩,trivial⟩ ?_
    rw [show vs.length+1=m+3 by omega]
    obtain ⟨W,hW⟩:∃ W,W=digN (ws.length+1) (val ws*2 ^ k):=⟨_,rfl⟩
    obtain ⟨Dv,hDe⟩:∃ Dv,Dv=digN (m+2) (val vs*2 ^ k):=⟨_,rfl⟩
    have hWl:W.length=ws.length+1:=by rw [hW,digN_length]
    have hWd:Wd W:=by rw [hW]; exact digN_wd _ _
    have hDl:Dv.length=m+2:=by rw [hDe,digN_length]
    have hDwd:Wd Dv:=by rw [hDe]; exact digN_wd _ _
    have e12:Pure.sl vs.length (List.take (vs.length*1) (List.drop 0 (encW (digN (m+3) (val vs*2 ^ k)))))=pW Dv:=by
     rw [List.drop_zero,Nat.mul_one,encW_take,hm,htake,← hDe,pW,hDl]
    rw [e12,← hW,Nat.mul_one (ws.length+1)]
    rw [← hW] at hstart hWv
    rw [← hDe] at hDv htop
    rw [← hDv] at hstart hDpos hDlt
    refine exr (mV L rfl (sw (c_ln un43 L) t1 t0 (aV L rfl (zn [(0,_),(10,_),(11,_),(12,_),(13,_)] [(66,_)] t5 t1 (exr (mV L rfl (sw (c_ln un43 L) t1 t0 (mV L rfl (sw (c_su L (w64 oM oM)) t2 t0 (sw (c_ad L (w64 oM oM)) t2 t0 (swb (c_mk (k:=80) un43 ti119 rfl rfl rfl rfl (show _=((ws.length - vs.length+1:Nat):Int) by omega) (show _=((ws.length - vs.length+1:Nat):Int) by omega) (Nat.le_refl _) (by simp [Tryz.t119]; omega) oM (P0 _ rfl) L) t2 t0 ⟨rfl,rfl⟩ ?_)))))))))))
    refine aV L rfl (zn [(0,_),(4,_),(10,_),(11,_),(12,_),(13,_)] [(66,_),(80,_)] t6 t2 (ex_seq (exr (mV L rfl (sw (c_ln un43 L) t1 t0 (mV L rfl (sw (c_su L (w64 oM oM)) t2 t0 (aV L rfl (zn [(4,_),(10,_),(11,_),(12,_),(13,_),(14,_)] [(66,_),(80,_)] t6 t2 (ex_block ?_))))))))))
    refine exl (α:=(Nat×Int×List Int)) (fun x=>[(14,vi ((x.1:Int) - 1))]) (fun x=>[(66,⟨119,1,.pure (encW (restAt W (m+2) x.1 x.2.1))⟩),(80,⟨119,1,.pure (encW (List.replicate x.1 0++x.2.2))⟩)]) (fun x=>PartAt W (m+2) (val Dv) x) (fun x=>x.1) ((ws.length+1 - (m+2),val (W.drop (ws.length+1 - (m+2))),([]:List Int))) (sl:=[(4,_),(10,_),(11,_),(12,_),(13,_)]) (hb:=[]) ?_ ⟨oi oM rfl,rfl,rfl,rfl,rfl,rfl,trivial⟩ ⟨obl rfl (by rw [← hWl,restAt_start hWd oM]),obl rfl (by rw [encW_rep,List.append_nil,show ws.length - vs.length+1=ws.length+1 - (m+2) by omega]),trivial⟩ ?_
    ·exact hstart
    intro x hx
    obtain ⟨r,R,qs⟩:=x
    have hle:=hx.le
    have hr:=hx.r
    have hlq:=hx.len
    simp only at hle hr hlq
    dsimp only
    refine ex_seq (exr (mV L rfl (sw (c_ge L) t2 t0 (zn [(4,_),(10,_),(11,_),(12,_),(13,_),(14,_),(86,_)] [(66,_),(80,_)] t7 t2 ?_))))
    refine ex_if rfl (fun he=>?_) (fun he=>?_)
    ·have he:=dt he
     obtain ⟨i,rfl⟩:∃ i,r=i+1:=⟨r - 1,by omega⟩
     have ei:(((i+1:Nat):Int) - 1)=(i:Int):=by omega
     rw [ei]
     obtain ⟨w1,w2,w3,w4⟩:=hx.win hWd hDlt
     obtain ⟨win,hwin⟩:∃ win,win=W.getD i 0 :: digN (m+2) R:=⟨_,rfl⟩
     rw [← hwin] at w1 w2 w3 w4
     obtain ⟨zs,hzs⟩:∃ zs:List Int,zs=List.replicate (W.length - (m+2) - (i+1)) 0:=⟨_,rfl⟩
     have hzl:zs.length=W.length - (m+2) - (i+1):=by rw [hzs,List.length_replicate]
     rw [restAt_win oM,← hwin,← hzs]
     have hti:(W.take i).length=i:=by simp; omega
     obtain ⟨q,hq⟩:∃ q,q=guessW (win.getD (m+2) 0) (win.getD (m+1) 0) (win.getD m 0) (Dv.getD (m+1) 0) (Dv.getD m 0):=⟨_,rfl⟩
     obtain ⟨g1,g2,g3⟩:=guess_ok w1 hDwd (n:=m) w2 hDl htop w4 hq
     have gv0:=val_nonneg w1
     have gq0:=Int.ediv_nonneg gv0 (Int.le_of_lt hDpos)
     have gqB:val win / val Dv<4294967296:=Int.ediv_lt_of_lt_mul hDpos w4
     have key:=hx.next hWd hDpos w3
     refine ex_skip (xq ?_)
     refine ex_seq (ex_block (exd rF ?_))
     refine mV L rfl (mV L rfl (mV L rfl (sw (c_ad L (w64 oM oM)) t2 t0 (sw (ixR0 un43 sz119 (by exact (by simp [restAt_length hle,hWl] <;> omega)) (j:=i+(m+2)) rO oM L) t2 t1 ?_))))
     refine sw (c_l1 ag119 (by exact (by simp [restAt_length hle,hWl] <;> omega)) (getC (getP hti oM)) L) t1 t1 ?_
     refine mV L rfl (mV L rfl (mV L rfl (sw (c_ad L (w64 oM oM)) t2 t0 (sw (c_su L (w64 oM oM)) t2 t0 (sw (ixR0 un43 sz119 (by exact (by simp [restAt_length hle,hWl] <;> omega)) (j:=i+(m+1)) rO oM L) t2 t1 ?_)))))
     refine sw (c_l1 ag119 (by exact (by simp [restAt_length hle,hWl] <;> omega)) (getC (getP hti oM)) L) t1 t1 ?_
     refine mV L rfl (mV L rfl (mV L rfl (sw (c_ad L (w64 oM oM)) t2 t0 (sw (c_su L (w64 oM oM)) t2 t0 (sw (ixR0 un43 sz119 (by exact (by simp [restAt_length hle,hWl] <;> omega)) (j:=i+m) rO oM L) t2 t1 ?_)))))
     refine sw (c_l1 ag119 (by exact (by simp [restAt_length hle,hWl] <;> omega)) (getC (getP hti oM)) L) t1 t1 ?_
     refine sw (core_buildArr (vs:=[_,_,_]) un146 zv146 (.cons rfl (.cons rfl (.cons rfl .nil))) sz119 rfl (.cons rfl (.atom rfl) rfl pu1 (.cons rfl (.atom rfl) rfl (.skip pu1) (.cons rfl (.atom rfl) rfl (.skip (.skip pu1)) .nil))) (.cons (.cons (.cons .nil))) L) t3 t0 (mV L rfl (mV L rfl (sw (c_su L (w64 oM oM)) t2 t0 (sw (ixJ un43 sz119 (j:=m+1) rO oM sM L) t2 t0 ?_))))
     refine sw (c_li ag119 (by first | exact getW oM | rfl) L) t1 t0 ?_
     refine mV L rfl (mV L rfl (sw (c_su L (w64 oM oM)) t2 t0 (sw (ixJ un43 sz119 (j:=m) rO oM sM L) t2 t0 ?_)))
     refine sw (c_li ag119 (by first | exact getW oM | rfl) L) t1 t0 ?_
     refine cK hG hX cl159 hN (guess_says (win.getD (m+2) 0) (win.getD (m+1) 0) (win.getD m 0) (Dv.getD (m+1) 0) (Dv.getD m 0) (w1.getD _) (w1.getD _) (w1.getD _) ⟨htop,(hDwd.getD _).2⟩ (hDwd.getD _)) L t3 (aV L rfl ?_)
     refine seq_nil ⟨aoks [⟨[11],[],[89],[]⟩,⟨[14],[],[90],[]⟩,⟨[13],[],[91],[]⟩,⟨[90,91],[],[92],[]⟩,⟨[89,92],[66],[93],[]⟩,⟨[93],[66],[94],[]⟩,⟨[11],[],[95],[]⟩,⟨[14],[],[96],[]⟩,⟨[13],[],[97],[]⟩,⟨[96,97],[],[98],[]⟩,⟨[98],[],[99],[]⟩,⟨[95,99],[66],[100],[]⟩,⟨[100],[66],[101],[]⟩,⟨[11],[],[102],[]⟩,⟨[14],[],[103],[]⟩,⟨[13],[],[104],[]⟩,⟨[103,104],[],[105],[]⟩,⟨[105],[],[106],[]⟩,⟨[102,106],[66],[107],[]⟩,⟨[107],[66],[108],[]⟩,⟨[94,101,108],[],[109],[]⟩,⟨[12],[],[110],[]⟩,⟨[13],[],[111],[]⟩,⟨[111],[],[112],[]⟩,⟨[110,112],[],[113],[]⟩,⟨[113],[],[114],[]⟩,⟨[12],[],[115],[]⟩,⟨[13],[],[116],[]⟩,⟨[116],[],[117],[]⟩,⟨[115,117],[],[118],[]⟩,⟨[118],[],[119],[]⟩,⟨[109,114,119],[],[120],[]⟩,⟨[120],[],[15],[]⟩] rF rF dC,[(4,_),(10,_),(11,_),(12,_),(13,_),(14,_),(15,_)],[(66,_),(80,_)],t7,t2,?_⟩
     rw [← hq]
     have tk:=take_says (W.take i) win zs Dv q (ws.length+1) oM oM w1 oM hDwd ⟨by omega,g2⟩ g3
     have tr:=take_result hDpos g1 g3
     have hrest:W.take i++(digN win.length (val win % val Dv)++zs)=restAt W (m+2) i (val win % val Dv):=by
      rw [w2,hzs,restAt_next (Int.emod_nonneg _ oM) (by have:=Int.emod_lt_of_pos (val win) hDpos; omega) oM]
     rw [hti,tr.1,tr.2,hrest] at tk
     refine ex_seq (exr (mV L rfl (mV L rfl (mV L rfl (mV L rfl (swB (c_cx hG hX [66] hN tk rfl (args_fn (ys:=[_,_,_,_]) cl160 rfl rF) rF rF rF rF (SameH.to (.cons (len_pure (by rw [encW_length,encW_length,restAt_length oM]; simp; omega)) .nil)) rF rF L) t4 t1 ?_))))))
     refine sw (c_no L) t1 t0 (zn [(4,_),(10,_),(11,_),(12,_),(13,_),(14,_),(15,_),(126,_)] [(66,_),(80,_)] t8 t2 ?_)
     refine ex_if rfl (fun hb=>?_) (fun hb=>?_)
     ·have hb:=ndt hb
      have e:q - 1=val win / val Dv:=by rw [← tr.1,if_neg hb]
      refine exr0 (mV L rfl (sw (c_su L (fu64 oM oM)) t2 t0 (aV L rfl (seq_nil ?_))))
      rw [e]
      refine exr0 (mV L rfl (mV L rfl (mV L rfl (sw (c_cv un127 un119 L (fu32 oM oM)) t1 t0 (sw (ixR0 un43 sz119 (by exact sO) (j:=i) rO oM L) t2 t1 ?_)))))
      refine sb (c_s1 sz119 (by exact sO) (.atom rfl) oM) t2 t1 ?_
      refine seq_nil (exr0 (mV L rfl (sw (c_su L (w64 oM oM)) t2 t0 (aV L rfl (seq_nil ?_)))))
      exact ⟨(i,val win % val Dv,val win / val Dv :: qs),key,(by simp only; omega),le_of ⟨oR,rfl,rfl,rfl,rfl,rfl,trivial⟩ ⟨rfl,obl rfl (by rw [encW_set,q_set]),trivial⟩⟩
     ·have hb:=ndf hb
      have e:q=val win / val Dv:=by rw [← tr.1,if_pos hb]
      rw [e]
      refine ex_skip (xq ?_)
      refine exr0 (mV L rfl (mV L rfl (mV L rfl (sw (c_cv un127 un119 L (fu32 oM oM)) t1 t0 (sw (ixR0 un43 sz119 (by exact sO) (j:=i) rO oM L) t2 t1 ?_)))))
      refine sb (c_s1 sz119 (by exact sO) (.atom rfl) oM) t2 t1 ?_
      refine seq_nil (exr0 (mV L rfl (sw (c_su L (w64 oM oM)) t2 t0 (aV L rfl (seq_nil ?_)))))
      exact ⟨(i,val win % val Dv,val win / val Dv :: qs),key,(by simp only; omega),le_of ⟨oR,rfl,rfl,rfl,rfl,rfl,trivial⟩ ⟨rfl,obl rfl (by rw [encW_set,q_set]),trivial⟩⟩
    ·have he:=df he
     have hr0:r=0:=by omega
     subst hr0
     have heq:=hx.eq
     have hqw:=hx.wd
     simp only [List.drop_zero] at heq hqw
     rw [hDv,hWv] at heq
     rw [hDv] at hr
     obtain ⟨pe1,pe2⟩:=part_end hv heq hr
     have hqs:qs=digN (ws.length - vs.length+1) (val ws / val vs):=by
      rw [← pe1,show ws.length - vs.length+1=qs.length by omega]; exact (digN_val hqw).symm
     obtain ⟨X,hL⟩:∃ X,X=restAt W (m+2) 0 R:=⟨_,rfl⟩
     have hLl:X.length=ws.length+1:=by rw [hL,restAt_length oM,hWl]
     have hLw:Wd X:=by rw [hL]; exact restAt_wd hWd
     have hL2:=hL
     rw [rest_zero] at hL2
     rw [← hL]
     refine ex_exit (xq ?_)
     refine exr (mV L rfl (mV L rfl (sw (slR_hi un43 sz119 rfl (by exact (by simp [restAt_length hle,hWl] <;> omega)) (h:=vs.length) rO oM L) t2 t1 ?_)))
     refine aV L rfl (zn [(4,_),(5,_),(10,_),(11,_)] [(66,_),(80,_)] t4 t2 (ex_seq (exr (mV L rfl (sw (c_lr un43 (by exact (by simp [restAt_length hle,hWl] <;> omega)) L) t1 t1 ?_)))))
     refine mV L rfl (zn [(4,_),(5,_),(10,_),(11,_),(138,_),(139,_)] [(66,_),(80,_)] t6 t2 (ex_block ?_))
     refine exl (α:=(Nat×List Int)) (fun y=>[(139,vi (y.1:Int))]) (fun y=>[(66,⟨119,1,.pure (encW (y.2++X.drop y.1))⟩)]) (fun y=>UnAt X k y∧y.1≤m+2) (fun y=>m+2 - y.1) (((0:Nat),([]:List Int))) (sl:=[(4,_),(5,_),(10,_),(11,_),(138,_)]) (hb:=[(80,_)]) ?_ ⟨oR,rfl,rfl,rfl,rfl,rfl,trivial⟩ ⟨obl rfl sM,rfl,trivial⟩ ?_
     ·exact ⟨UnAt.zero X k,Nat.zero_le _⟩
     intro y hy
     obtain ⟨j,ys⟩:=y
     obtain ⟨hy,hjl⟩:=hy
     have hyl:=hy.len
     simp only at hyl hjl
     dsimp only
     refine exr (sw (c_ls L) t2 t0 (zn [(4,_),(5,_),(10,_),(11,_),(138,_),(139,_),(140,_)] [(66,_),(80,_)] t7 t2 (ex_seq ?_)))
     refine ex_if rfl (fun hf=>?_) (fun hf=>?_)
     ·have hf:=dt hf
      have u0:=hLw.getD j
      have u1:=hLw.getD (j+1)
      have ub:=shr_bd (s:=k) (show 0≤X.getD j 0+X.getD (j+1) 0*4294967296 by omega) oM
      refine ex_skip (xq ?_)
      refine ex_seq (ex_block (exr (mV L rfl (aV L rfl (zn [(4,_),(5,_),(10,_),(11,_),(16,_),(138,_),(139,_)] [(66,_),(80,_)] t7 t2 (exd0 rF ?_))))))
      refine mV L rfl (mV L rfl (mV L rfl (mV L rfl (sw (c_ad L (w64 oM oM)) t2 t0 (sw (ixR0 un43 sz119 (by exact sO) (j:=j+1) rO oM L) t2 t1 ?_)))))
      refine sw (c_l1 ag119 (by exact sO) (getC (getU (L:=X) (p:=j+1) (q:=j+1) (i:=1) hyl rfl rfl oM)) L) t1 t1 ?_
      refine sw (c_cv un119 un127 L (fu64 oM oM)) t1 t0 (sw (c_sl L dC (shlE (c:=4294967296) rF (fu64 oM oM))) t2 t0 ?_)
      refine mV L rfl (mV L rfl (sw (ixR un43 sz119 (by exact sO) (j:=j) rO oM L) t2 t1 ?_))
      refine sw (c_l1 ag119 (by exact sO) (getC (getU (L:=X) (p:=0+j) (q:=j) (i:=0) hyl oM rfl oM)) L) t1 t1 ?_
      refine sw (c_cv un119 un127 L (fu64 oM oM)) t1 t0 (sw (c_or L (Eq.trans (or64' (b:=X.getD (j+1) 0) 32 rfl u0.1 u0.2 u1.1 dC oM oM) (show _=X.getD j 0+X.getD (j+1) 0*4294967296 by omega))) t2 t0 ?_)
      refine mV L rfl (sw (c_sr L oM (shr64k oM)) t2 t0 (sw (c_cv un127 un119 L wu32) t1 t0 (sw (ixR un43 sz119 (by exact sO) (j:=j) rO oM L) t2 t1 ?_)))
      refine sb (c_s1 sz119 (by exact sO) (.atom rfl) oM) t2 t1 ?_
      refine seq_nil ⟨aoks [⟨[5],[],[142],[]⟩,⟨[16],[],[143],[]⟩,⟨[11],[],[144],[]⟩,⟨[16],[],[145],[]⟩,⟨[145],[],[146],[]⟩,⟨[144,146],[66],[147],[]⟩,⟨[147],[66],[148],[]⟩,⟨[148],[],[149],[]⟩,⟨[149],[],[150],[]⟩,⟨[5],[],[151],[]⟩,⟨[16],[],[152],[]⟩,⟨[151,152],[66],[153],[]⟩,⟨[153],[66],[154],[]⟩,⟨[154],[],[155],[]⟩,⟨[150,155],[],[156],[]⟩,⟨[10],[],[157],[]⟩,⟨[156,157],[],[158],[]⟩,⟨[158],[],[159],[]⟩,⟨[142,143],[66],[160],[]⟩,⟨[160,159],[66],[],[66]⟩] rF rF dC,?_⟩
      refine exr0 (sw (c_ad L (w64 oM oM)) t2 t0 (mV L rfl (seq_nil ?_)))
      exact ⟨(j+1,ys++[(X.getD j 0+X.getD (j+1) 0*4294967296) / 2 ^ k % 4294967296]),⟨hy.next hLw oM oM,by simp only; omega⟩,(by simp only; omega),le_of ⟨oR,rfl,rfl,rfl,rfl,rfl,trivial⟩ ⟨obl rfl (by rw [encW_set,Nat.zero_add,tail_set hyl oM]),rfl,trivial⟩⟩
     ·have hf:=df hf
      have hj:j=m+2:=by omega
      subst hj
      have hys:=un_end hL2 hr.1 (by rw [← hDv] at hr; omega) hy
      rw [pe2] at hys
      refine ex_exit (xq ?_)
      refine exr (mV L rfl (mV L rfl (aV L rfl (aV L rfl (zn [(4,_),(5,_)] [(66,_),(80,_)] t2 t2 (ex_cv [66,80] (sl:=[(4,_),(5,_)]) (hb:=[]) (own_none hX0) ⟨⟨_,rfl,(.ref rfl rfl (by exact sO) (by first | rfl | omega))⟩,⟨_,rfl,(.refo rfl rfl (by exact sO) rfl)⟩,trivial⟩ t0 ?_))))))
      refine ex_ret ?_
      refine ⟨.inr rfl,ResVs.cast (.cons (.tmp rfl) (.cons (.tmp rfl) .nil)) ?_⟩
      simp only [partQ,partR,if_neg hc,if_neg hp,if_neg (show ¬ vs.length=1 by omega)]; rw [← hqs,Nat.mul_one,List.drop_zero,encW_take,List.take_append_of_le_length oM,List.take_of_length_le oM,hys,hm]; simp [digN_length]; omega
end Go.Proofs.YtjagfionflbjbaaGreat.N
namespace Go.Proofs.YtjagfionflbjbaaGreat.NumA
def nw (a:Int):Nat:=(digs a.natAbs).length
theorem nw_le {a:Int}{k:Nat}(h:(a.natAbs:Int)<4294967296 ^ k):nw a≤k:=by
  have:a.natAbs=((a.natAbs:Int)).toNat:=by simp
  unfold nw; rw [this]
  exact dlen (by omega) h
theorem nw_lt {a:Int}:(a.natAbs:Int)<4294967296 ^ nw a:=by
  have h:=val_lt (wd_digs a.natAbs)
  rwa [val_digs] at h
theorem nw_mono {a b:Int}(h:a.natAbs≤b.natAbs):nw a≤nw b:=nw_le (by have:=nw_lt (a:=b); omega)
theorem nw_val {m:Bool}{ws:List Int}(h:Wd ws):nw (sg m (val ws))≤ws.length:=nw_le (by have:=val_lt h; have:=val_nonneg h; cases m <;> simp [sg] <;> omega)
theorem nw_mul (a b:Int):nw (a*b)≤nw a+nw b:=by
  apply nw_le
  rw [Int.natAbs_mul,Int.natCast_mul,Int.pow_add]
  have h1:=nw_lt (a:=a)
  have h2:=nw_lt (a:=b)
  have h3:(a.natAbs:Int)*b.natAbs≤a.natAbs*4294967296 ^ nw b:=Int.mul_le_mul_of_nonneg_left (Int.le_of_lt h2) (by omega)
  have h4:(a.natAbs:Int)*4294967296 ^ nw b<4294967296 ^ nw a*4294967296 ^ nw b:=Int.mul_lt_mul_of_pos_right h1 (Bpos _)
  omega
theorem nw_add (a b:Int):nw (a+b)≤max (nw a) (nw b)+1:=by
  apply nw_le
  have h1:=nw_lt (a:=a)
  have h2:=nw_lt (a:=b)
  have h3:=powle (Nat.le_max_left (nw a) (nw b))
  have h4:=powle (Nat.le_max_right (nw a) (nw b))
  rw [Bsucc]
  generalize (4294967296:Int) ^ max (nw a) (nw b)=M at *
  omega
theorem nw_zero {a:Int}:nw a=0↔a=0:=by
  unfold nw
  rw [List.length_eq_zero_iff,digs_nil]; omega
theorem nw_neg (a:Int):nw (-a)=nw a:=by unfold nw; rw [Int.natAbs_neg]
theorem val_digs_sg {m:Bool}{x:Int}(h:0≤x):val (digs (sg m x).natAbs)=x:=by rw [val_digs]; cases m <;> simp [sg] <;> omega
theorem digs_len_zero {n:Nat}:(digs n).length=0↔n=0:=by rw [List.length_eq_zero_iff,digs_nil]
theorem sg_abs {m:Bool}{x:Int}(h:0≤x):((sg m x).natAbs:Int)=x:=by cases m <;> simp [sg] <;> omega
theorem val_pos {ws:List Int}(h:Wd ws)(ht:Tr ws)(hl:ws.length≠0):0<val ws:=by
  have h1:=val_nonneg h
  by_cases e:val ws=0
  · have:=val_eq_zero h ht e
    rw [this] at hl; simp at hl
  · omega
def dQ (m n:Bool)(ws vs:List Int):Int:=if canon m ws=true∧canon n vs=true then sg m (val ws) / sg n (val vs) else 0
def dR (m n:Bool)(ws vs:List Int):Int:=if canon m ws=true∧canon n vs=true∧vs.length≠0 then sg m (val ws) % sg n (val vs) else 0
def dE (m n:Bool)(ws vs:List Int):Int:=if canon m ws=true∧canon n vs=true then (if vs.length=0 then 5 else 0) else 3
end Go.Proofs.YtjagfionflbjbaaGreat.NumA
set_option maxRecDepth 100000
set_option maxHeartbeats 4000000
namespace Go.Proofs.YtjagfionflbjbaaGreat.N
open Go Go.Proofs.YtjagfionflbjbaaGreat.SH Go.Proofs.YtjagfionflbjbaaGreat.NumA
open Go.Proofs.Tryz renaming call129→cl129,call131→cl131,call138→cl138,call149→cl149,call150→cl150,call151→cl151,call153→cl153,call161→cl161,isAgg43→ag43,isAgg45→ag45,isAgg4→ag4,sizeOf43→sz43,sizeOf45→sz45,sizeOf4→sz4,typeInfo119→ti119,typeInfo45→ti45,underlying139→un139,underlying43→un43,underlying45→un45,underlying4→un4,zeroValue45→zv45
theorem div_says (m n:Bool)(ws vs:List Int)(hl:ws.length<999999999999)(hl2:vs.length<999999999999)(h:Wd ws)(h2:Wd vs):Says E 152 [pI m ws,pI n vs] (.tup [pZ (dQ m n ws vs),pZ (dR m n ws vs),vZ (dE m n ws vs)]):=by
 refine says_of (xs:=[pZ (dQ m n ws vs),pZ (dR m n ws vs),vZ (dE m n ws vs)]) Tryz.func152 rfl Tryz.ntmps152 Tryz.results152 sM fun F hG hX0 hnt hdf P0=>?_
 obtain ⟨L,hX,hN⟩:=pro hnt hX0 hG
 refine exr (swb (c_bx (k:=2) (n:=2) pa2 rfl rfl (P0 _ rfl) L) t1 t0 ⟨rfl,rfl⟩ (swb (c_bx (k:=3) (n:=2) pa2 rfl rfl (P0 _ rfl) L) t1 t0 ⟨rfl,rfl⟩ (swb (c_al (k:=4) (n:=2) zv45 (.cons rfl (.cons rfl .nil)) rfl (P0 _ rfl) L) t0 t0 ⟨rfl,rfl⟩ (swb (c_al (k:=5) (n:=2) zv45 (.cons rfl (.cons rfl .nil)) rfl (P0 _ rfl) L) t0 t0 ⟨rfl,rfl⟩ (aV L rfl (zn [(2,_),(3,_),(4,_),(5,_)] [(2,_),(3,_),(4,_),(5,_)] t4 t4 (ex_seq (exr (lp2 ag45 sz45 L rfl rfl (lp2 ag45 sz45 L rfl rfl (sw (c_bI (vs:=[_,_]) un139 ti45 rfl rfl dC dC rfl (zs_made (.cons rfl (.cons rfl .nil)) rfl) rfl (.cons rfl pa2 rfl pu2 (.cons rfl pa2 rfl (.skip (.skip pu2)) .nil)) (.cons (.cons (.cons (.cons .nil)))) L) t2 t0 ?_)))))))))))
 refine cK hG hX cl138 hN (all_says [(m,ws),(n,vs)] sM sO) L t1 ?_
 refine sw (c_no L) t1 t0 (zn [(2,_),(3,_),(4,_),(5,_),(13,_)] [(2,_),(3,_),(4,_),(5,_)] t5 t4 ?_)
 refine ex_if rfl (fun hc=>?_) (fun hc=>?_)
 ·have hc:¬ (canon m ws=true∧canon n vs=true):=by rintro ⟨h1,h2⟩; simp [h1,h2] at hc
  refine exr (sw (c_pc (c_bp (vs:=[]) un45 zv45 (.cons rfl (.cons rfl .nil)) ((Places.cons sz4 (Places.cons sz43 Places.nil))).to rfl .nil (.cons (.cons .nil)) L) (.agg (.cons .same (.cons .nil .nil)))) t0 t0 (sw (c_pc (c_bp (vs:=[]) un45 zv45 (.cons rfl (.cons rfl .nil)) ((Places.cons sz4 (Places.cons sz43 Places.nil))).to rfl .nil (.cons (.cons .nil)) L) (.agg (.cons .same (.cons .nil .nil)))) t0 t0 (sb (c_sm sz45 rF pa2 rfl pu2) t2 t1 ?_)))
  refine sb (c_sm sz45 rF pa2 rfl pu2) t2 t1 ?_
  refine aV L rfl (zn [(4,_),(5,_),(6,_)] [(4,_),(5,_)] t3 t2 (ex_ret ?_))
  refine ⟨.inr rfl,ResVs.cast (.cons (.agg rfl rfl rfl ag45 sz45 (.cons (.cons .nil))) (.cons (.agg rfl rfl rfl ag45 sz45 (.cons (.cons .nil))) (.cons (.tmp rfl) .nil))) ?_⟩
  rw [dQ,dR,dE,if_neg hc,if_neg (fun hh=>hc ⟨hh.1,hh.2.1⟩),if_neg hc,pZ_zero]; rfl
 ·have hc:canon m ws=true∧canon n vs=true:=by simpa using hc
  have ht:=(canon_tr hc.1).1
  have ht2:=(canon_tr hc.2).1
  refine ex_skip (xq ?_)
  refine ex_seq (exr (sw (c_fa un45 rfl sz43 dC rX L) t1 t1 ?_))
  refine sw (c_l1 ag43 rF rF L) t1 t1 ?_
  refine sw (c_ln un43 L) t1 t0 (sw (c_e L) t2 t0 (zn [(2,_),(3,_),(4,_),(5,_),(19,_)] [(2,_),(3,_),(4,_),(5,_)] t5 t4 ?_))
  refine ex_if rfl (fun hz=>?_) (fun hz=>?_)
  ·have hz:=dt hz
   have e:vs=[]:=List.eq_nil_of_length_eq_zero oM
   subst e
   have e0:sg n (val [])=0:=by cases n <;> rfl
   refine exr (sw (c_pc (c_bp (vs:=[]) un45 zv45 (.cons rfl (.cons rfl .nil)) ((Places.cons sz4 (Places.cons sz43 Places.nil))).to rfl .nil (.cons (.cons .nil)) L) (.agg (.cons .same (.cons .nil .nil)))) t0 t0 (sw (c_pc (c_bp (vs:=[]) un45 zv45 (.cons rfl (.cons rfl .nil)) ((Places.cons sz4 (Places.cons sz43 Places.nil))).to rfl .nil (.cons (.cons .nil)) L) (.agg (.cons .same (.cons .nil .nil)))) t0 t0 (sb (c_sm sz45 rF pa2 rfl pu2) t2 t1 ?_)))
   refine sb (c_sm sz45 rF pa2 rfl pu2) t2 t1 ?_
   refine aV L rfl (zn [(4,_),(5,_),(6,_)] [(4,_),(5,_)] t3 t2 (ex_ret ?_))
   refine ⟨.inr rfl,ResVs.cast (.cons (.agg rfl rfl rfl ag45 sz45 (.cons (.cons .nil))) (.cons (.agg rfl rfl rfl ag45 sz45 (.cons (.cons .nil))) (.cons (.tmp rfl) .nil))) ?_⟩
   rw [dQ,dR,dE,if_pos hc,if_neg (fun hh=>hh.2.2 rfl),if_pos hc,if_pos (show ([]:List Int).length=0 from rfl),e0,Int.ediv_zero,pZ_zero]; rfl
  ·have hz:=df hz
   have hv:=val_pos h2 ht2 oM
   have a0:=val_nonneg h
   have ps:=part_spec h h2 ht ht2 hv
   have r0:=Int.emod_nonneg (val ws) (show val vs≠0 by omega)
   have q0:=Int.ediv_nonneg a0 (Int.le_of_lt hv)
   have r1:=Int.emod_lt_of_pos (val ws) hv
   have q1:=Int.ediv_le_self (val vs) a0
   have dsg:=div_sg (m:=m) (n:=n) a0 hv
   have hQ:dQ m n ws vs=sg m (val ws) / sg n (val vs):=by rw [dQ,if_pos hc]
   have hR:dR m n ws vs=sg m (val ws) % sg n (val vs):=by rw [dR,if_pos ⟨hc.1,hc.2,by omega⟩]
   have hE:dE m n ws vs=0:=by rw [dE,if_pos hc,if_neg oM]
   rw [hQ,hR,hE,dsg.1,dsg.2]
   refine ex_skip (xq ?_)
   refine exr (sw (c_fa un45 rfl sz43 dC rX L) t1 t1 ?_)
   refine sw (c_l1 ag43 rF rF L) t1 t1 ?_
   refine sw (c_fa un45 rfl sz43 dC rX L) t1 t1 ?_
   refine sw (c_l1 ag43 rF rF L) t1 t1 ?_
   refine cK hG hX cl151 hN (parted_says ws vs oM oM h h2 ht ht2 hv) L t2 (mV L rfl (sw (c_ex rfl L) t1 t0 (sw (c_ex rfl L) t1 t0 (aV L rfl (aV L rfl (zn [(2,_),(3,_),(4,_),(5,_),(7,_),(8,_)] [(2,_),(3,_),(4,_),(5,_)] t6 t4 (exr (sw (c_fa un45 rfl sz4 dC rX L) t1 t1 ?_))))))))
   refine sw (c_l1 ag4 rF rF L) t1 t1 ?_
   refine sw (c_fa un45 rfl sz4 dC rX L) t1 t1 ?_
   refine sw (c_l1 ag4 rF rF L) t1 t1 ?_
   refine sw (c_bn un4 L) t2 t0 (mV L rfl (cK hG hX cl131 hN (made_says (m != n) (partQ ws vs) oM ps.1) L t2 (mV L rfl (cK hG hX cl131 hN (made_says false (partR ws vs) oM ps.2.1) L t2 (sb (c_sm sz45 rF pa2 rfl pu2) t2 t1 ?_)))))
   refine sb (c_sm sz45 rF pa2 rfl pu2) t2 t1 ?_
   refine zn [(2,_),(3,_),(4,_),(5,_)] [(2,_),(3,_),(4,_),(5,_)] t4 t4 ?_
   rw [ps.2.2.1,ps.2.2.2.1]
   refine ex_seq ?_
   refine exm (sl:=[(47,vb (decide (¬ (m=true∧val ws % val vs≠0))))]) (sl0:=[(2,_),(3,_),(4,_),(5,_)]) (hb:=[]) (hb0:=[(2,_),(3,_),(4,_),(5,_)]) t4 t4 ?_ ?_
   ·by_cases hm:m=true
    ·refine sw (c_fa un45 rfl sz4 dC rX L) t1 t1 ?_
     refine sw (c_l1 ag4 rF rF L) t1 t1 ?_
     refine sw (c_no L) t1 t0 (mV L rfl (swg (g:=42) rfl (by simp [hm]) (c_fa un45 rfl sz43 dC rX L) rfl t1 t1 ?_))
     refine swg (g:=42) rfl (by simp [hm]) (c_l1 ag43 rF rF L) rfl t1 t1 ?_
     refine swg (g:=42) rfl (by simp [hm]) (c_ln un43 L) rfl t1 t0 ?_
     refine swg (g:=42) rfl (by simp [hm]) (c_e L) rfl t2 t0 ?_
     refine sw (c_pf (by simp [hm]) L) t2 t0 ?_
     exact seq_nil ⟨⟨ob rfl (dec_eq (by simp only [hm,true_and,Decidable.not_not,ne_eq]; have:=digs_len_zero (n:=(sg false (val ws % val vs)).natAbs); have:=sg_abs (m:=false) r0; omega)),rfl,rfl,rfl,rfl,trivial⟩,t4⟩
    ·refine sw (c_fa un45 rfl sz4 dC rX L) t1 t1 ?_
     refine sw (c_l1 ag4 rF rF L) t1 t1 ?_
     refine sw (c_no L) t1 t0 (mV L rfl (swn (g:=42) rfl (by simp [hm]) L rfl ?_))
     refine swn (g:=42) rfl (by simp [hm]) L rfl ?_
     refine swn (g:=42) rfl (by simp [hm]) L rfl ?_
     refine swn (g:=42) rfl (by simp [hm]) L rfl ?_
     refine sw (c_pt (by simp [hm]) L) t2 t0 ?_
     exact seq_nil ⟨⟨ob rfl (by simp [hm]),rfl,rfl,rfl,rfl,trivial⟩,t4⟩
   refine ex_if rfl (fun hd=>?_) (fun hd=>?_)
   ·have hd:=dt hd
    rw [if_neg hd,if_neg hd]
    refine exd rF ?_
    refine lp2 ag45 sz45 L rfl rfl (lp2 ag45 sz45 L rfl rfl (sb (c_sm sz45 rF pa2 rfl pu2) t2 t1 ?_))
    refine sb (c_sm sz45 rF pa2 rfl pu2) t2 t1 ?_
    refine aV L rfl ?_
    refine seq_nil ⟨aoks [⟨[4],[4],[48],[]⟩,⟨[5],[5],[49],[]⟩,⟨[4,48],[4],[],[4]⟩,⟨[5,49],[5],[],[5]⟩,⟨[],[],[6],[]⟩] rF rF dC,[(4,_),(5,_),(6,_)],[(4,_),(5,_)],t3,t2,?_⟩
    refine ex_ret ?_
    refine ⟨.inr rfl,ResVs.cast (.cons (.agg rfl rfl rfl ag45 sz45 (.cons (.cons .nil))) (.cons (.agg rfl rfl rfl ag45 sz45 (.cons (.cons .nil))) (.cons (.tmp rfl) .nil))) ?_⟩
    rfl
   ·have hd:=Decidable.not_not.1 (df hd)
    rw [if_pos hd,if_pos hd]
    have hql:(digs (sg (m != n) (val ws / val vs)).natAbs).length<9999999999999:=by
     have:=nw_val (m:=m != n) ps.1
     rw [ps.2.2.1] at this
     unfold nw at this; omega
    have hrl:(digs (sg false (val ws % val vs)).natAbs).length<9999999999999:=by
     have:=nw_val (m:=false) ps.2.1
     rw [ps.2.2.2.1] at this
     unfold nw at this; omega
    have hbl:(digs ((sg n (val vs)).natAbs:Int).natAbs).length<9999999999999:=by
     have:=nw_val (m:=n) h2
     unfold nw at this
     rw [show ((sg n (val vs)).natAbs:Int).natAbs=(sg n (val vs)).natAbs by simp]; omega
    refine ex_skip (xq ?_)
    refine exr (sw (c_fa un45 rfl sz43 dC rX L) t1 t1 ?_)
    refine sw (c_l1 ag43 rF rF L) t1 t1 ?_
    refine sw (c_fa un45 rfl sz4 dC rX L) t1 t1 ?_
    refine sw (c_l1 ag4 rF rF L) t1 t1 ?_
    refine sw (c_fa un45 rfl sz4 dC rX L) t1 t1 ?_
    refine sw (c_l1 ag4 rF rF L) t1 t1 ?_
    refine sw (c_bn un4 L) t2 t0 (sw (c_bI (vs:=[_]) un43 ti119 rfl rfl dC dC rfl (zs_made (.cons rfl .nil) rfl) rfl (.cons rfl (.atom rfl) rfl pu1 .nil) (.cons .nil) L) t1 t0 (sw (c_fa un45 rfl sz4 dC rX L) t1 t1 ?_))
    refine sw (c_l1 ag4 rF rF L) t1 t1 ?_
    refine sw (c_fa un45 rfl sz4 dC rX L) t1 t1 ?_
    refine sw (c_l1 ag4 rF rF L) t1 t1 ?_
    refine sw (c_bn un4 L) t2 t0 (cK hG hX cl153 hN (signed_says (digs (sg (m != n) (val ws / val vs)).natAbs) [1] (m != n) (m != n) hql sM (wd_digs _) (by simp [Wd]) (digs_tr _) (by simp [Tr])) L t4 ?_)
    refine sb (c_sm sz45 rF pa2 rfl pu2) t2 t1 ?_
    refine zn [(3,_),(4,_),(5,_)] [(3,_),(4,_),(5,_)] t3 t3 ?_
    rw [val_digs_sg q0]
    refine exd rF ?_
    refine lp2 ag45 sz45 L rfl rfl (lp2 ag45 sz45 L rfl rfl (cK hG hX cl149 hN (abs_says n vs oM h2) L t1 (lp2 ag45 sz45 L rfl rfl (cK hG hX cl161 hN (sub_says (decide ((if canon n vs=true then ((sg n (val vs)).natAbs:Int) else 0)<0)) (decide (sg false (val ws % val vs)<0)) (digs (if canon n vs=true then ((sg n (val vs)).natAbs:Int) else 0).natAbs) (digs (sg false (val ws % val vs)).natAbs) (by rw [if_pos hc.2]; exact hbl) hrl (wd_digs _) (wd_digs _)) L t2 ?_))))
    refine sb (c_sm sz45 rF pa2 rfl pu2) t2 t1 ?_
    refine sb (c_sm sz45 rF pa2 rfl pu2) t2 t1 ?_
    refine aV L rfl ?_
    refine seq_nil ⟨aoks [⟨[4],[4],[64],[]⟩,⟨[3],[3],[65],[]⟩,⟨[65],[],[66],[]⟩,⟨[5],[5],[67],[]⟩,⟨[66,67],[],[68],[]⟩,⟨[4,64],[4],[],[4]⟩,⟨[5,68],[5],[],[5]⟩,⟨[],[],[6],[]⟩] rF rF dC,[(4,_),(5,_),(6,_)],[(4,_),(5,_)],t3,t2,?_⟩
    refine ex_ret ?_
    refine ⟨.inr rfl,ResVs.cast (.cons (.agg rfl rfl rfl ag45 sz45 (.cons (.cons .nil))) (.cons (.agg rfl rfl rfl ag45 sz45 (.cons (.cons .nil))) (.cons (.tmp rfl) .nil))) ?_⟩
    rw [if_pos ⟨canon_digs _,canon_digs _⟩,sg_digs,sg_digs,if_pos hc.2,sg_abs (Int.le_of_lt hv),← sg_add]; simp [val,sg]
@[reducible] def bI (a:Int):Blk:=⟨45,2,.mix [.p (.a (.bool (decide (a<0)))),.p (.sl (digs a.natAbs).length (encW (digs a.natAbs)))]⟩
theorem addZ (a b:Int)(ha:nw a<999999999999)(hb:nw b<999999999999):Says E 140 [pZ a,pZ b] (pZ (a+b)):=by
 have:=add_says (decide (a<0)) (decide (b<0)) (digs a.natAbs) (digs b.natAbs) (by unfold nw at ha; omega) (by unfold nw at hb; omega) (wd_digs _) (wd_digs _)
 rwa [if_pos ⟨canon_digs a,canon_digs b⟩,sg_digs,sg_digs] at this
theorem mulZ (a b:Int)(ha:nw a<999999999999)(hb:nw b<999999999999):Says E 111 [pZ a,pZ b] (pZ (a*b)):=by
 have:=mul_says (decide (a<0)) (decide (b<0)) (digs a.natAbs) (digs b.natAbs) (by unfold nw at ha; omega) (by unfold nw at hb; omega) (wd_digs _) (wd_digs _)
 rwa [if_pos ⟨canon_digs a,canon_digs b⟩,sg_digs,sg_digs] at this
theorem divZ (a b:Int)(ha:nw a<999999999999)(hb:nw b<999999999999)(h0:b≠0):Says E 152 [pZ a,pZ b] (.tup [pZ (a / b),pZ (a % b),vZ 0]):=by
 have:=div_says (decide (a<0)) (decide (b<0)) (digs a.natAbs) (digs b.natAbs) ha hb (wd_digs _) (wd_digs _)
 have hl:(digs b.natAbs).length≠0:=by rw [Ne,digs_len_zero]; omega
 rwa [dQ,dR,dE,if_pos ⟨canon_digs a,canon_digs b⟩,if_pos ⟨canon_digs a,canon_digs b,hl⟩,if_pos ⟨canon_digs a,canon_digs b⟩,if_neg hl,sg_digs,sg_digs] at this
theorem negZ (a:Int)(ha:nw a<999999999999):Says E 102 [pZ a] (pZ (-a)):=by
 have:=neg_says (decide (a<0)) (digs a.natAbs) (by unfold nw at ha; omega) (wd_digs _)
 rwa [if_pos (canon_digs a),sg_digs] at this
theorem signZ (a:Int)(ha:nw a<999999999999):Says E 134 [pZ a] (vZ a.sign):=by
 have:=sign_says (decide (a<0)) (digs a.natAbs) (by unfold nw at ha; omega) (wd_digs _)
 rwa [if_pos (canon_digs a),sg_digs] at this
theorem cmpZ (a b:Int)(ha:nw a<999999999999)(hb:nw b<999999999999):Says E 114 [pZ a,pZ b] (vZ (cmpI a b)):=by
 have:=cmp_says (decide (a<0)) (decide (b<0)) (digs a.natAbs) (digs b.natAbs) (by unfold nw at ha; omega) (by unfold nw at hb; omega) (wd_digs _) (wd_digs _)
 rwa [if_pos ⟨canon_digs a,canon_digs b⟩,sg_digs,sg_digs] at this
theorem isZ (a:Int)(ha:nw a<999999999999):Says E 130 [pZ a] (bZ true):=by
 have:=is_says (decide (a<0)) (digs a.natAbs) (by unfold nw at ha; omega)
 rwa [canon_digs a] at this
theorem parted_r (x y:Nat)(hy:0<y):val (partR (digs x) (digs y))=((x % y:Nat):Int):=by
 have:=(part_spec (wd_digs x) (wd_digs y) (digs_tr x) (digs_tr y) (by rw [val_digs]; omega)).2.2.2.1
 rw [this,val_digs,val_digs]; rfl
theorem gcd_says (m n:Bool)(ws vs:List Int)(hl:ws.length<99999999999)(hl2:vs.length<99999999999)(h:Wd ws)(h2:Wd vs):Says E 135 [pI m ws,pI n vs] (pZ (if canon m ws=true∧canon n vs=true then (Int.gcd (sg m (val ws)) (sg n (val vs)):Int) else 0)):=by
 refine says_of (xs:=[pZ (if canon m ws=true∧canon n vs=true then (Int.gcd (sg m (val ws)) (sg n (val vs)):Int) else 0)]) Tryz.func135 rfl Tryz.ntmps135 Tryz.results135 sM fun F hG hX0 hnt hdf P0=>?_
 obtain ⟨L,hX,hN⟩:=pro hnt hX0 hG
 refine exr (swb (c_bx (k:=2) (n:=2) pa2 rfl rfl (P0 _ rfl) L) t1 t0 ⟨rfl,rfl⟩ (swb (c_bx (k:=3) (n:=2) pa2 rfl rfl (P0 _ rfl) L) t1 t0 ⟨rfl,rfl⟩ (swb (c_al (k:=4) (n:=2) zv45 (.cons rfl (.cons rfl .nil)) rfl (P0 _ rfl) L) t0 t0 ⟨rfl,rfl⟩ (zn [(2,_),(3,_),(4,_)] [(2,_),(3,_),(4,_)] t3 t3 (ex_seq (exr (lp2 ag45 sz45 L rfl rfl (lp2 ag45 sz45 L rfl rfl (sw (c_bI (vs:=[_,_]) un139 ti45 rfl rfl dC dC rfl (zs_made (.cons rfl (.cons rfl .nil)) rfl) rfl (.cons rfl pa2 rfl pu2 (.cons rfl pa2 rfl (.skip (.skip pu2)) .nil)) (.cons (.cons (.cons (.cons .nil)))) L) t2 t0 (cK hG hX cl138 hN (all_says [(m,ws),(n,vs)] sM sO) L t1 ?_))))))))))
 refine sw (c_no L) t1 t0 (zn [(2,_),(3,_),(4,_),(17,_)] [(2,_),(3,_),(4,_)] t4 t3 ?_)
 refine ex_if rfl (fun hc=>?_) (fun hc=>?_)
 ·have hc:¬ (canon m ws=true∧canon n vs=true):=by rintro ⟨h1,h2⟩; simp [h1,h2] at hc
  refine exr (sw (c_pc (c_bp (vs:=[]) un45 zv45 (.cons rfl (.cons rfl .nil)) ((Places.cons sz4 (Places.cons sz43 Places.nil))).to rfl .nil (.cons (.cons .nil)) L) (.agg (.cons .same (.cons .nil .nil)))) t0 t0 (sb (c_sm sz45 rF pa2 rfl pu2) t2 t1 ?_))
  refine zn [(4,_)] [(4,_)] t1 t1 (ex_ret ?_)
  refine ⟨.inr rfl,ResVs.cast (.cons (.agg rfl rfl rfl ag45 sz45 (.cons (.cons .nil))) .nil) ?_⟩
  rw [if_neg hc,pZ_zero]; rfl
 ·have hc:canon m ws=true∧canon n vs=true:=by simpa using hc
  have ab:=abs_says m ws oM h
  have ab2:=abs_says n vs oM h2
  rw [if_pos hc.1] at ab
  rw [if_pos hc.2] at ab2
  have na:=nw_val (m:=m) h
  have nb:=nw_val (m:=n) h2
  rw [if_pos hc]
  obtain ⟨A,hA⟩:∃ A,A=sg m (val ws):=⟨_,rfl⟩
  obtain ⟨B,hB⟩:∃ B,B=sg n (val vs):=⟨_,rfl⟩
  rw [← hA] at ab na ⊢
  rw [← hB] at ab2 nb ⊢
  refine ex_skip (xq ?_)
  refine exd rF ?_
  refine lp2 ag45 sz45 L rfl rfl (cK hG hX cl149 hN ab L t1 (lp2 ag45 sz45 L rfl rfl (cK hG hX cl149 hN ab2 L t1 (swb (c_al (k:=5) (n:=2) zv45 (.cons rfl (.cons rfl .nil)) rfl (P0 _ rfl) L) t0 t0 ⟨rfl,rfl⟩ (swb (c_al (k:=6) (n:=2) zv45 (.cons rfl (.cons rfl .nil)) rfl (P0 _ rfl) L) t0 t0 ⟨rfl,rfl⟩ (sb (c_sm sz45 rF pa2 rfl pu2) t2 t1 ?_))))))
  refine sb (c_sm sz45 rF pa2 rfl pu2) t2 t1 ?_
  refine seq_nil ⟨aok rfl rfl,[(4,_),(5,_),(6,_)],[(4,_),(5,_),(6,_)],t3,t3,?_⟩
  refine ex_seq (ex_block ?_)
  refine exl (α:=(Nat×Nat)) (fun x=>[]) (fun x=>[(5,bI (x.1:Int)),(6,bI (x.2:Int))]) (fun x=>Nat.gcd x.1 x.2=Int.gcd A B∧x.1≤max A.natAbs B.natAbs∧x.2≤max A.natAbs B.natAbs) (fun x=>x.2) ((A.natAbs,B.natAbs)) (sl:=[(4,_),(5,_),(6,_)]) (hb:=[(4,_)]) ?_ t3 t3 ?_
  ·exact ⟨rfl,Nat.le_max_left _ _,Nat.le_max_right _ _⟩
  intro x hx
  obtain ⟨x,y⟩:=x
  obtain ⟨hg,hx,hy⟩:=hx
  simp only at hg hx hy
  dsimp only
  have hnx:nw (x:Int)<99999999999:=by
   rcases (show x≤A.natAbs∨x≤B.natAbs by omega) with c | c
   ·have:=nw_mono (a:=(x:Int)) (b:=A) (by simpa using c); omega
   ·have:=nw_mono (a:=(x:Int)) (b:=B) (by simpa using c); omega
  have hny:nw (y:Int)<99999999999:=by
   rcases (show y≤A.natAbs∨y≤B.natAbs by omega) with c | c
   ·have:=nw_mono (a:=(y:Int)) (b:=A) (by simpa using c); omega
   ·have:=nw_mono (a:=(y:Int)) (b:=B) (by simpa using c); omega
  have hdx:=wd_digs (x:Int).natAbs
  have hdy:=wd_digs (y:Int).natAbs
  unfold nw at hnx hny
  refine ex_seq (exr (sw (c_fa un45 rfl sz43 dC rX L) t1 t1 ?_))
  refine sw (c_l1 ag43 rF rF L) t1 t1 ?_
  refine sw (c_ln un43 L) t1 t0 (sw (c_gt L) t2 t0 (zn [(4,_),(5,_),(6,_),(26,_)] [(4,_),(5,_),(6,_)] t4 t3 ?_))
  refine ex_if rfl (fun he=>?_) (fun he=>?_)
  ·have he:=dt he
   have hyp:0<y:=by
    by_cases c:y=0
    ·subst c; simp [digs_zero] at he
    ·omega
   refine ex_skip (xq ?_)
   refine ex_block (exr (sw (c_fa un45 rfl sz43 dC rX L) t1 t1 ?_))
   refine sw (c_l1 ag43 rF rF L) t1 t1 ?_
   refine cK hG hX cl150 hN (pair_says (digs (x:Int).natAbs) oM hdx) L t1 (mV L rfl (sw (c_ex rfl L) t1 t0 (sw (c_ex rfl L) t1 t0 (aV L rfl (aV L rfl (zn [(4,_),(5,_),(6,_),(7,_),(8,_)] [(4,_),(5,_),(6,_)] t5 t3 (exr (sw (c_fa un45 rfl sz43 dC rX L) t1 t1 ?_))))))))
   refine sw (c_l1 ag43 rF rF L) t1 t1 ?_
   refine cK hG hX cl150 hN (pair_says (digs (y:Int).natAbs) oM hdy) L t1 (mV L rfl (sw (c_ex rfl L) t1 t0 (sw (c_ex rfl L) t1 t0 (aV L rfl (aV L rfl (zn [(4,_),(5,_),(6,_),(7,_),(8,_),(9,_),(10,_)] [(4,_),(5,_),(6,_)] t7 t3 (ex_seq ?_)))))))
   refine exm (sl:=[(42,vb (decide ((digs (x:Int).natAbs).length≤2∧(digs (y:Int).natAbs).length≤2)))]) (sl0:=[(4,_),(5,_),(6,_),(7,_),(9,_)]) (hb:=[]) (hb0:=[(4,_),(5,_),(6,_)]) t5 t3 ?_ ?_
   ·by_cases hs:(digs (x:Int).natAbs).length≤2
    ·refine mV L rfl (mV L rfl (gV (g:=40) rfl (decide_eq_true hs) L rfl rfl (sw (c_pt (decide_eq_true hs) L) t2 t0 ?_)))
     exact seq_nil ⟨⟨ob rfl (dec_eq ⟨fun c=>⟨hs,c⟩,fun c=>c.2⟩),rfl,rfl,rfl,rfl,rfl,trivial⟩,t3⟩
    ·refine mV L rfl (mV L rfl (swn (g:=40) rfl (decide_eq_false hs) L rfl (sw (c_pf (decide_eq_false hs) L) t2 t0 ?_)))
     exact seq_nil ⟨⟨ob rfl (decide_eq_false (fun c=>hs c.1)).symm,rfl,rfl,rfl,rfl,rfl,trivial⟩,t3⟩
   refine ex_if rfl (fun hs=>?_) (fun hs=>?_)
   ·have hs:=dt hs
    rw [if_pos hs.1,if_pos hs.2,val_digs,val_digs]
    have sx:=small2 hdx hs.1
    have sy:=small2 hdy hs.2
    rw [val_digs] at sx sy
    refine ex_seq (ex_block ?_)
    refine exl (α:=(Nat×Nat)) (fun z=>[(7,vw (z.1:Int)),(9,vw (z.2:Int))]) (fun z=>[]) (fun z=>Nat.gcd z.1 z.2=Int.gcd A B∧z.1<18446744073709551616∧z.2<18446744073709551616) (fun z=>z.2) ((x,y)) (sl:=[(4,_)]) (hb:=[(4,_)]) ?_ ⟨oR,oR,rfl,trivial⟩ t1 ?_
    ·exact ⟨hg,by simp only; omega,by simp only; omega⟩
    intro z hz
    obtain ⟨u,v⟩:=z
    obtain ⟨hg2,hu,hv⟩:=hz
    simp only at hg2 hu hv
    dsimp only
    refine ex_seq (exr (mV L rfl (sw (c_gt L) t2 t0 (zn [(4,_),(7,_),(9,_),(44,_)] [(4,_)] t4 t1 ?_))))
    refine ex_if rfl (fun hf=>?_) (fun hf=>?_)
    ·have hf:=dt hf
     have hlt:=Nat.mod_lt u (show 0<v by omega)
     refine ex_skip (xq ?_)
     refine ex_block (exd0 rF ?_)
     refine mV L rfl (mV L rfl (mV L rfl (sw (c_r L oM (show _=((u % v:Nat):Int) by rw [tmodE oM oM]; rfl)) t2 t0 ?_)))
     refine aV L rfl (aV L rfl ?_)
     refine seq_nil ⟨aoks [⟨[9],[],[45],[]⟩,⟨[7],[],[46],[]⟩,⟨[9],[],[47],[]⟩,⟨[46,47],[],[48],[]⟩,⟨[45],[],[7],[]⟩,⟨[48],[],[9],[]⟩] rF rF dC,?_⟩
     exact ⟨(v,u % v),⟨by rw [← gcd_step]; exact hg2,hv,by simp only; omega⟩,(by simp only; omega),le_of ⟨oR,oR,rfl,trivial⟩ t1⟩
    ·have hf:=df hf
     have hv0:v=0:=by omega
     subst hv0
     rw [Nat.gcd_zero_right] at hg2
     subst hg2
     refine ex_exit (xq ?_)
     refine exr (mV L rfl (cK hG hX cl129 hN (natural_says false (Int.gcd A B:Nat) oM oM) L t2 (sb (c_sm sz45 rF pa2 rfl pu2) t2 t1 ?_)))
     refine zn [(4,_)] [(4,_)] t1 t1 (ex_ret ?_)
     refine ⟨.inr rfl,ResVs.cast (.cons (.agg rfl rfl rfl ag45 sz45 (.cons (.cons .nil))) .nil) ?_⟩
     rfl
   ·have hs:=df hs
    have ps:=part_spec hdx hdy (digs_tr _) (digs_tr _) (by rw [val_digs]; omega)
    refine ex_skip (xq ?_)
    refine exr (sw (c_fa un45 rfl sz43 dC rX L) t1 t1 ?_)
    refine sw (c_l1 ag43 rF rF L) t1 t1 ?_
    refine sw (c_fa un45 rfl sz43 dC rX L) t1 t1 ?_
    refine sw (c_l1 ag43 rF rF L) t1 t1 ?_
    refine cK hG hX cl151 hN (parted_says (digs (x:Int).natAbs) (digs (y:Int).natAbs) oM oM hdx hdy (digs_tr _) (digs_tr _) (by rw [val_digs]; omega)) L t2 ?_
    refine mV L rfl (sw (c_ex rfl L) t1 t0 (sw (c_ex rfl L) t1 t0 (aV L rfl (aV L rfl (zn [(4,_),(5,_),(6,_),(12,_)] [(4,_),(5,_),(6,_)] t4 t3 ?_)))))
    have pr:sg false (val (partR (digs (x:Int).natAbs) (digs (y:Int).natAbs)))=((x % y:Nat):Int):=parted_r x y hyp
    have md:=made_says false (partR (digs (x:Int).natAbs) (digs (y:Int).natAbs)) oM ps.2.1
    rw [pr] at md
    have hml:=Nat.mod_lt x hyp
    refine exd0 rF ?_
    refine lp2 ag45 sz45 L rfl rfl (mV L rfl (cK hG hX cl131 hN md L t2 (sb (c_sm sz45 rF pa2 rfl pu2) t2 t1 ?_)))
    refine sb (c_sm sz45 rF pa2 rfl pu2) t2 t1 ?_
    refine seq_nil ⟨aoks [⟨[6],[6],[59],[]⟩,⟨[12],[],[60],[]⟩,⟨[60],[],[61],[]⟩,⟨[5,59],[5],[],[5]⟩,⟨[6,61],[6],[],[6]⟩] rF rF dC,?_⟩
    exact ⟨(y,x % y),⟨by rw [← gcd_step]; exact hg,hy,by simp only; omega⟩,(by simp only; omega),le_of t3 t3⟩
  ·have he:=df he
   have hy0:y=0:=by
    have:(digs (y:Int).natAbs).length=0:=by omega
    rw [digs_len_zero] at this; omega
   subst hy0
   rw [Nat.gcd_zero_right] at hg
   subst hg
   refine ex_exit (xq ?_)
   refine exr (lp2 ag45 sz45 L rfl rfl (sb (c_sm sz45 rF pa2 rfl pu2) t2 t1 ?_))
   refine zn [(4,_)] [(4,_)] t1 t1 (ex_ret ?_)
   refine ⟨.inr rfl,ResVs.cast (.cons (.agg rfl rfl rfl ag45 sz45 (.cons (.cons .nil))) .nil) ?_⟩
   rfl
theorem gcdZ (a b:Int)(ha:nw a<99999999999)(hb:nw b<99999999999):Says E 135 [pZ a,pZ b] (pZ (Int.gcd a b:Int)):=by
 have:=gcd_says (decide (a<0)) (decide (b<0)) (digs a.natAbs) (digs b.natAbs) ha hb (wd_digs _) (wd_digs _)
 rwa [if_pos ⟨canon_digs a,canon_digs b⟩,sg_digs,sg_digs] at this
end Go.Proofs.YtjagfionflbjbaaGreat.N
namespace Go.Proofs.YtjagfionflbjbaaGreat.NumA
theorem rdiv_start {ws vs : List Int} {m k : Nat} (h : Wd ws) (h2 : Wd vs) (ht2 : Tr vs) (hm : vs.length = m + 2) (hk : k + bl (vs.getD (vs.length - 1) 0).toNat = 32) (hle : val vs ≤ val ws) {W Dv : List Int} (hW : W = digs (val ws * 2 ^ k).toNat ++ [0, 0]) (hD : Dv = digs (val vs * 2 ^ k).toNat) :
    k<32∧0<val vs∧0<val Dv∧val Dv<4294967296 ^ (m+2)∧val Dv=val vs*2 ^ k∧Dv.length=m+2∧2147483648≤Dv.getD (m+1) 0∧val W=val ws*2 ^ k∧Wd W∧Wd Dv∧m+2≤W.length∧W.length≤ws.length+3 ∧
    PartAt W (m+2) (val Dv) (W.length - (m+2),val (W.drop (W.length - (m+2))),[]):=by
  have hlen:=len_le h h2 ht2 hle
  obtain ⟨p1,p2,p3,p4,p5,p6,p7,p8,-⟩:=part_start h h2 ht2 hm hk hlen
  have hn:vs≠[]:=by intro e; rw [e] at hm; simp at hm
  obtain ⟨n1,n2,n3⟩:=norm_bd h2 ht2 hn hk
  have hp:(0:Int)<2 ^ k:=Int.pow_pos (by decide)
  have eD:Dv=digN (m+2) (val vs*2 ^ k):=by
    rw [hD,← p5]
    have:=digs_val (digN_wd (m+2) (val vs*2 ^ k)) (.inr (by rw [digN_length,show m+2 - 1=m+1 by omega]; omega))
    rw [this,p5]
  have vD:val Dv=val vs*2 ^ k:=by rw [eD,p5]
  have sw:=shifted_lt h (Nat.le_of_lt n3)
  have vd:val (digs (val ws*2 ^ k).toNat)=val ws*2 ^ k:=by rw [val_digs]; omega
  have vW:val W=val ws*2 ^ k:=by rw [hW,val_append,vd]; simp [val]
  have wD:=wd_digs (val ws*2 ^ k).toNat
  have wW:Wd W:=by
    rw [hW]; refine wD.append fun w hw=>?_
    simp only [List.mem_cons,List.not_mem_nil,or_false,or_self] at hw; subst hw; decide
  have hl0:m+2≤(digs (val ws*2 ^ k).toNat).length:=by
    have h3:val vs*2 ^ k≤val ws*2 ^ k:=Int.mul_le_mul_of_nonneg_right hle (Int.le_of_lt hp)
    rw [hm,show m+2 - 1=m+1 by omega] at n1
    have h4:=val_lt wD
    rw [vd] at h4
    by_cases c:m+2≤(digs (val ws*2 ^ k).toNat).length
    · exact c
    · have h5:=powle (show (digs (val ws*2 ^ k).toNat).length≤m+1 by omega)
      have:=Bpos (m+1)
      omega
  have hl1:(digs (val ws*2 ^ k).toNat).length≤ws.length+1:=dlen sw.1 sw.2
  have hWl:W.length=(digs (val ws*2 ^ k).toNat).length+2:=by rw [hW]; simp
  refine ⟨n3,p2,by omega,by omega,vD,by rw [eD,digN_length],by rw [eD]; exact p7,vW,wW,by rw [hD]; exact wd_digs _,by omega,by omega,?_⟩
  refine PartAt.start wW (by omega) ?_
  have e1:W.drop (W.length - (m+2))=(digs (val ws*2 ^ k).toNat).drop ((digs (val ws*2 ^ k).toNat).length - m)++[0,0]:=by
    rw [hWl,hW,List.drop_append_of_le_length (by omega)]
    congr 2; omega
  rw [e1,val_append]
  have h6:=val_lt (wD.drop ((digs (val ws*2 ^ k).toNat).length - m))
  rw [List.length_drop] at h6
  have h7:=powle (show (digs (val ws*2 ^ k).toNat).length - ((digs (val ws*2 ^ k).toNat).length - m)≤m+1 by omega)
  rw [hm,show m+2 - 1=m+1 by omega] at n1
  have:=Bpos (m+1)
  have e2:val [0,0]=0:=by simp [val]
  rw [e2,Int.mul_zero]
  omega
structure LowerAt (win vs:List Int) (x:Int×List Int×Int):Prop where
  q:val win / val vs≤x.1∧x.1<4294967296
  len:x.2.1.length=win.length
  wd:Wd x.2.1
  b:x.2.2=0∨x.2.2=1
  eq:val x.2.1=val win - x.1*val vs+4294967296 ^ win.length*x.2.2
  iff:x.2.2=0↔x.1*val vs≤val win
theorem LowerAt.start {win vs ys:List Int}{q c b:Int}(h:Wd win)(hl:vs.length<win.length)(h2:Wd vs)(hq:0≤q∧q<4294967296)(hQ:val win / val vs≤q)(ha:TakeAt win vs q (win.length,ys,c,b)):LowerAt win vs (q,ys,b):=by
  have h1:=ha.end_ h hl h2 hq
  exact ⟨⟨hQ,hq.2⟩,ha.len,ha.wd,ha.b,h1.2.1,h1.2.2⟩
theorem LowerAt.more {win vs w1 ys:List Int}{q e:Int}(hw:Wd win)(hl:vs.length≤win.length)(h2:Wd vs)(hD:0<val vs)(ha:LowerAt win vs (q,w1,1))(hb:BackAt w1 vs (win.length,ys,e)):LowerAt win vs (q - 1,ys,1 - e)∧0<q:=by
  have hnot:¬ q*val vs≤val win:=fun c=>by have:=ha.iff.2 c; simp only at this; omega
  have hq:=ha.q
  simp only at hq
  have hlt:val win / val vs<q:=by
    by_cases c:val win / val vs<q
    · exact c
    · have e:val win / val vs=q:=by omega
      exact absurd (by rw [← e]; exact Int.ediv_mul_le _ (by omega)) hnot
  have h0:=Int.ediv_nonneg (val_nonneg hw) (Int.le_of_lt hD)
  have:=back_more hl h2 ha.eq ha.len ha.wd hw hb hnot
  have hc:=hb.c
  simp only at hc
  refine ⟨⟨by simp only; omega,hb.len,hb.wd,by simp only; omega,this.1,this.2⟩,by omega⟩
theorem LowerAt.pos {win vs w1:List Int}{q:Int}(hw:Wd win)(hD:0<val vs)(ha:LowerAt win vs (q,w1,1)):0<q:=by
  have hnot:¬ q*val vs≤val win:=fun c=>by have:=ha.iff.2 c; simp only at this; omega
  have hq:=ha.q
  simp only at hq
  have h0:=Int.ediv_nonneg (val_nonneg hw) (Int.le_of_lt hD)
  by_cases c:0<q
  · exact c
  · have e:q=0:=by omega
    rw [e,Int.zero_mul] at hnot
    exact absurd (val_nonneg hw) hnot
theorem LowerAt.done {win vs w1:List Int}{q:Int}(hw:Wd win)(hD:0<val vs)(ha:LowerAt win vs (q,w1,0)):q=val win / val vs∧w1=digN win.length (val win % val vs):=by
  have hle:=ha.iff.1 rfl
  have hq:=ha.q
  have he:=ha.eq
  have hlen:=ha.len
  simp only at hle hq he hlen
  have h1:=(Int.le_ediv_iff_mul_le hD).2 hle
  have e1:q=val win / val vs:=by omega
  refine ⟨e1,?_⟩
  have e2:val w1=val win % val vs:=by
    rw [he,e1,Int.mul_zero,Int.add_zero]
    have:=Int.mul_ediv_add_emod (val win) (val vs)
    rw [Int.mul_comm] at this; omega
  rw [← e2,← hlen]; exact (digN_val ha.wd).symm
end Go.Proofs.YtjagfionflbjbaaGreat.NumA
namespace Go.Proofs.YtjagfionflbjbaaGreat.SH
open Go Go.RowKit
section
variable {P:Program} {F:Fr} {d:Nat} {T:TypeId} {pos:String} {aft:Array Edge} {g:Option (Nat×Bool)} {t:TypeId}
end
end Go.Proofs.YtjagfionflbjbaaGreat.SH
namespace Go.Proofs.YtjagfionflbjbaaGreat.SH
open Go Go.RowKit
end Go.Proofs.YtjagfionflbjbaaGreat.SH
namespace Go.Proofs.YtjagfionflbjbaaGreat.SH
open Go Go.RowKit
section
variable {P:Program} {F:Fr} {d:Nat} {T:TypeId} {pos:String} {aft:Array Edge} {g:Option (Nat×Bool)} {t tx:TypeId}
variable {x y:Operand} {xT yT:TypeId} {s u:ByteArray}
end
end Go.Proofs.YtjagfionflbjbaaGreat.SH
namespace Go.Proofs.YtjagfionflbjbaaGreat.SH
open Go Go.RowKit
theorem SaysO.data {E:Env}{f:FuncId}{args xs:List Pure}{T:TypeId}{sz n:Nat}(h:SaysO E f args T sz n xs):Says E f args (.sl n xs):=by
  intro ok w vals hG hrel
  refine (h ok w vals hG hrel).mono ?_
  rintro e w' ⟨b,cap,c,rfl,hn,hb,hH,hc,hl,hx,hbel⟩
  refine ⟨_,rfl,?_,hbel⟩
  simp only [Rel]
  refine ⟨some ⟨b,0,none⟩,cap,rfl,hn,RelS.of (.inr hb) (RelAt.of fun i y hy=>?_)⟩
  obtain ⟨u,h1,h2,h3⟩:=hx i y hy
  refine ⟨u,by rw [cellAt_of hH,Nat.zero_add]; exact h1,h2,?_⟩
  exact Rel.mono (fun a ha hne=>⟨ha.1,rfl⟩) y u h3
end Go.Proofs.YtjagfionflbjbaaGreat.SH
set_option maxRecDepth 100000
set_option maxHeartbeats 4000000
namespace Go.Proofs.YtjagfionflbjbaaGreat.N
open Go Go.Proofs.YtjagfionflbjbaaGreat.SH Go.Proofs.YtjagfionflbjbaaGreat.NumA
open Go.Proofs.Tryz renaming call117→cl117,call118→cl118,call119→cl119,call120→cl120,call122→cl122,call142→cl142,call143→cl143,call144→cl144,call145→cl145,call146→cl146,call147→cl147,call154→cl154,call165→cl165,call166→cl166,call167→cl167,call168→cl168,call77→cl77,isAgg119→ag119,isAgg43→ag43,isAgg45→ag45,isAgg4→ag4,sizeOf119→sz119,sizeOf43→sz43,sizeOf45→sz45,sizeOf4→sz4,typeInfo119→ti119,underlying119→un119,underlying127→un127,underlying43→un43,underlying45→un45,underlying4→un4,zeroValue45→zv45
theorem getM2 {xs ys win zs:List Int}{i j:Nat}(hx:xs.length=i)(hl:ys.length=j)(hj:j<win.length):(encW (xs++((ys++win.drop j)++zs)))[i+j]? = some (.a (.int .u32 (win.getD j 0))):=by
 subst hx; exact getM hl hj
theorem mid_set2 {xs ys win zs:List Int}{i j:Nat}(hx:xs.length=i)(hl:ys.length=j)(hj:j<win.length){d:Int}:(xs++((ys++win.drop j)++zs)).set (i+j) d=xs++(((ys++[d])++win.drop (j+1))++zs):=by
 subst hx; exact mid_set hl hj d
theorem rdivW_says (ws vs:List Int)(hl:ws.length<900000000000)(hl2:vs.length<900000000000)(h:Wd ws)(h2:Wd vs)(ht:Tr ws)(ht2:Tr vs)(hv:0<val vs):Says E 154 [pW ws,pW vs] (.tup [pW (digs (val ws / val vs).toNat),pW (digs (val ws % val vs).toNat)]):=by
 refine says_of (xs:=[pW (digs (val ws / val vs).toNat),pW (digs (val ws % val vs).toNat)]) Tryz.func154 rfl Tryz.ntmps154 Tryz.results154 sM fun F hG hX0 hnt hdf P0=>?_
 obtain ⟨L,hX,hN⟩:=pro hnt hX0 hG
 have a0:=val_nonneg h
 have q0:=Int.ediv_nonneg a0 (Int.le_of_lt hv)
 have r0:=Int.emod_nonneg (val ws) (show val vs≠0 by omega)
 have r1:=Int.emod_lt_of_pos (val ws) hv
 refine exr (aV L rfl (aV L rfl (zn [(0,_),(1,_)] [] t2 trivial (ex_seq (exr (mV L rfl (mV L rfl (cK hG hX cl143 hN (rcmp_says ws vs oM oM h h2 ht ht2) L t2 (sw (c_ls L) t2 t0 (zn [(0,_),(1,_),(22,_)] [] t3 trivial ?_))))))))))
 refine ex_if rfl (fun hc=>?_) (fun hc=>?_)
 ·have hc:=dt hc
  rw [cmpI_neg] at hc
  refine exr (mV L rfl (aV L rfl (aV L rfl (zn [(4,_),(5,_)] [] t2 trivial (ex_cv [] (sl:=[(4,_),(5,_)]) (hb:=[]) (own_none hX0) ⟨⟨_,rfl,(.p .nil)⟩,⟨_,rfl,.same⟩,trivial⟩ t0 (ex_ret ?_))))))
  refine ⟨.inr rfl,ResVs.cast (.cons (.tmp rfl) (.cons (.tmp rfl) .nil)) ?_⟩
  rw [Int.ediv_eq_zero_of_lt a0 hc,Int.emod_eq_of_lt a0 hc,digs_val h ht]; simp [digs_zero,encW]
 ·have hc:=df hc
  have hge:val vs≤val ws:=by rw [cmpI_neg] at hc; omega
  have hlen:=len_le h h2 ht2 hge
  refine ex_skip (xq ?_)
  refine ex_seq (exr (mV L rfl (sw (c_ln un43 L) t1 t0 (sw (c_e L) t2 t0 (zn [(0,_),(1,_),(26,_)] [] t3 trivial ?_)))))
  refine ex_if rfl (fun h1=>?_) (fun h1=>?_)
  ·have h1:=dt h1
   have hl1:vs.length=1:=by omega
   have hv1:=val_one hl1
   have hvb:=val_lt1 h2 oM
   have a1:=rbyWord_says ws (vs.getD 0 0) oM h oM
   rw [hv1] at a1
   refine exr (mV L rfl (mV L rfl (sw (ixJ un43 sz119 (j:=0) rfl oM sM L) t2 t0 ?_)))
   refine sw (c_li ag119 (by first | exact getW oM | rfl) L) t1 t0 ?_
   refine sw (c_cv un119 un127 L (show _=val vs by rw [hv1]; exact w64u oM oM)) t1 t0 ?_
   refine cK hG hX cl165 hN a1 L t2 (sw (c_ex rfl L) t1 t0 (sw (c_ex rfl L) t1 t0 (aV L rfl (aV L rfl (zn [(4,_),(5,_)] [] t2 trivial (ex_ret ?_))))))
   refine ⟨.inr rfl,ResVs.cast (.cons (.tmp rfl) (.cons (.tmp rfl) .nil)) ?_⟩
   rfl
  ·have h1:=df h1
   have hvn:vs.length≠0:=by
    intro e
    rw [List.eq_nil_of_length_eq_zero e] at hv; simp [val] at hv
   obtain ⟨m,hm⟩:∃ m,vs.length=m+2:=⟨vs.length - 2,by omega⟩
   have htw:=h2.getD (vs.length - 1)
   have hbl:=bl32 htw.2
   obtain ⟨k,hk⟩:∃ k:Nat,k+bl (vs.getD (vs.length - 1) 0).toNat=32:=⟨32 - bl (vs.getD (vs.length - 1) 0).toNat,by omega⟩
   have hbv:=bl_val h2 ht2 (fun e=>by rw [e] at hm; simp at hm)
   obtain ⟨W,hW⟩:∃ W,W=digs (val ws*2 ^ k).toNat++[0,0]:=⟨_,rfl⟩
   obtain ⟨Dv,hDe⟩:∃ Dv,Dv=digs (val vs*2 ^ k).toNat:=⟨_,rfl⟩
   obtain ⟨k32,-,hDpos,hDlt,hDv,hDl,htop,hWv,hWd,hDwd,hWl,hWl2,hstart⟩:=rdiv_start h h2 ht2 hm hk hge hW hDe
   have hlW:(digs (val ws*2 ^ k).toNat).length+2=W.length:=by rw [hW]; simp
   refine ex_skip (xq ?_)
   refine exr (mV L rfl (sw (c_ln un43 L) t1 t0 (sw (c_mu L (w64 oM oM)) t2 t0 (mV L rfl (cK hG hX cl166 hN (rbitsOf_says vs oM h2 ht2) L t1 (sw (c_su L (show _=(k:Int) by rw [hbv,show (32*(vs.length:Int) - (32*((vs.length:Int) - 1)+(bl (vs.getD (vs.length - 1) 0).toNat:Int)))=(k:Int) by omega]; exact w64 oM oM)) t2 t0 ?_))))))
   refine aV L rfl (zn [(0,_),(1,_),(6,_)] [] t3 trivial (exr (mV L rfl (mV L rfl (cK hG hX cl167 hN (rshifted_says vs k oM h2 oM).data L t2 (aV L rfl (zn [(0,_),(6,_),(7,_)] [] t3 trivial ?_)))))))
   rw [← hDe]
   refine exr (mV L rfl (mV L rfl (swb (c_co (k:=46) hG hX cl167 rfl hN (rshifted_says ws k oM h oM) (P0 _ rfl) L) t2 t0 ⟨rfl,rfl⟩ (sw (c_bI (vs:=[_,_]) un43 ti119 rfl rfl dC dC rfl (zs_made (.cons rfl .nil) rfl) rfl (.cons rfl (.atom rfl) rfl pu1 (.cons rfl (.atom rfl) rfl (.skip pu1) .nil)) (.cons (.cons .nil)) L) t2 t0 (swb (apP (sz:=1) un43 un43 ti119 rfl rfl rfl dC (by exact sM) oF sM rfl rfl rfl (by first | (simp [Tryz.t119]; done) | (simp [Tryz.t119]; omega)) oM (P0 _ rfl) L) t2 t1 t0 ?_)))))
   refine aV L rfl (zn [(5,_),(6,_),(7,_)] [(46,_)] t3 t1 ?_)
   rw [show encW (digs (val ws*2 ^ k).toNat)++[Pure.a (Value.int IntKind.u32 0),Pure.a (Value.int IntKind.u32 0)]=encW W by rw [hW]; simp [encW]]
   rw [show (digs (val ws*2 ^ k).toNat).length*1+2*1=W.length by omega,hlW]
   refine exr (mV L rfl (sw (c_ln un43 L) t1 t0 (aV L rfl (zn [(5,_),(6,_),(7,_),(8,_)] [(46,_)] t4 t1 (exr (mV L rfl (sw (c_lr un43 (by exact sM) L) t1 t1 ?_)))))))
   refine mV L rfl (sw (c_su L (w64 oM oM)) t2 t0 (swb (c_mk (k:=55) un43 ti119 rfl rfl rfl rfl (show _=((W.length - (m+2):Nat):Int) by omega) (show _=((W.length - (m+2):Nat):Int) by omega) (Nat.le_refl _) (by simp [Tryz.t119]; omega) oM (P0 _ rfl) L) t2 t0 ⟨rfl,rfl⟩ ?_))
   refine aV L rfl (zn [(4,_),(5,_),(6,_),(7,_),(8,_)] [(46,_),(55,_)] t5 t2 (ex_seq (exr (mV L rfl (sw (c_lr un43 (by exact sM) L) t1 t1 ?_)))))
   refine mV L rfl (sw (c_su L (w64 oM oM)) t2 t0 (sw (c_su L (w64 oM oM)) t2 t0 (aV L rfl (zn [(4,_),(5,_),(6,_),(7,_),(8,_),(9,_)] [(46,_),(55,_)] t6 t2 (ex_block ?_)))))
   refine exl (α:=(Nat×Int×List Int)) (fun x=>[(9,vi ((x.1:Int) - 1))]) (fun x=>[(46,⟨119,1,.pure (encW (restAt W (m+2) x.1 x.2.1))⟩),(55,⟨119,1,.pure (encW (List.replicate x.1 0++x.2.2))⟩)]) (fun x=>PartAt W (m+2) (val Dv) x) (fun x=>x.1) ((W.length - (m+2),val (W.drop (W.length - (m+2))),([]:List Int))) (sl:=[(4,_),(5,_),(6,_),(7,_),(8,_)]) (hb:=[]) ?_ ⟨oi oM rfl,rfl,rfl,rfl,rfl,rfl,trivial⟩ ⟨obl rfl (by rw [restAt_start hWd oM]),obl rfl (by rw [encW_rep,List.append_nil]),trivial⟩ ?_
   ·exact hstart
   intro x hx
   obtain ⟨r,R,qs⟩:=x
   have hle:=hx.le
   have hr:=hx.r
   have hlq:=hx.len
   simp only at hle hr hlq
   dsimp only
   refine ex_seq (exr (mV L rfl (sw (c_ge L) t2 t0 (zn [(4,_),(5,_),(6,_),(7,_),(8,_),(9,_),(62,_)] [(46,_),(55,_)] t7 t2 ?_))))
   refine ex_if rfl (fun he=>?_) (fun he=>?_)
   ·have he:=dt he
    obtain ⟨i,rfl⟩:∃ i,r=i+1:=⟨r - 1,by omega⟩
    have ei:(((i+1:Nat):Int) - 1)=(i:Int):=by omega
    rw [ei]
    obtain ⟨w1,w2,w3,w4⟩:=hx.win hWd hDlt
    obtain ⟨win,hwin⟩:∃ win,win=W.getD i 0 :: digN (m+2) R:=⟨_,rfl⟩
    rw [← hwin] at w1 w2 w3 w4
    obtain ⟨zs,hzs⟩:∃ zs:List Int,zs=List.replicate (W.length - (m+2) - (i+1)) 0:=⟨_,rfl⟩
    have hzl:zs.length=W.length - (m+2) - (i+1):=by rw [hzs,List.length_replicate]
    rw [restAt_win oM,← hwin,← hzs]
    obtain ⟨xs,hxs⟩:∃ xs,xs=W.take i:=⟨_,rfl⟩
    have hti:xs.length=i:=by rw [hxs]; simp; omega
    rw [← hxs]
    obtain ⟨-,g1,g2,g3,g4,g5⟩:=guess_first w1 hDwd (n:=m) w2 hDl htop w4
    have hu0:=w1.getD (m+2)
    have hu1:=w1.getD (m+1)
    have hd1:=hDwd.getD (m+1)
    have key:=hx.next hWd hDpos w3
    obtain ⟨U,hU⟩:∃ U,U=win.getD (m+2) 0*4294967296+win.getD (m+1) 0:=⟨_,rfl⟩
    rw [← hU] at g4 g5
    have hUq0:0≤U / Dv.getD (m+1) 0:=Int.ediv_nonneg oM oM
    have hUq1:U / Dv.getD (m+1) 0≤U:=Int.ediv_le_self _ oM
    refine ex_skip (xq ?_)
    refine ex_seq (ex_block (exd rF ?_))
    refine mV L rfl (mV L rfl (mV L rfl (sw (c_ad L (w64 oM oM)) t2 t0 (sw (ixR0 un43 sz119 (by exact (by simp [restAt_length hle] <;> omega)) (j:=i+(m+2)) rO oM L) t2 t1 ?_))))
    refine sw (c_l1 ag119 (by exact (by simp [restAt_length hle] <;> omega)) (getC (getP hti oM)) L) t1 t1 ?_
    refine sw (c_cv un119 un127 L (fu64 oM oM)) t1 t0 (sw (c_sl L dC (shlE (c:=4294967296) rF (fu64 oM oM))) t2 t0 ?_)
    refine mV L rfl (mV L rfl (mV L rfl (sw (c_ad L (w64 oM oM)) t2 t0 (sw (c_su L (w64 oM oM)) t2 t0 (sw (ixR0 un43 sz119 (by exact (by simp [restAt_length hle] <;> omega)) (j:=i+(m+1)) rO oM L) t2 t1 ?_)))))
    refine sw (c_l1 ag119 (by exact (by simp [restAt_length hle] <;> omega)) (getC (getP hti oM)) L) t1 t1 ?_
    refine sw (c_cv un119 un127 L (fu64 oM oM)) t1 t0 (sw (c_or L (or64' (b:=win.getD (m+2) 0) 32 rfl hu1.1 hu1.2 hu0.1 dC oM oM)) t2 t0 (aV L rfl ?_))
    refine seq_nil ⟨aoks [⟨[5],[],[65],[]⟩,⟨[9],[],[66],[]⟩,⟨[8],[],[67],[]⟩,⟨[66,67],[],[68],[]⟩,⟨[65,68],[46],[69],[]⟩,⟨[69],[46],[70],[]⟩,⟨[70],[],[71],[]⟩,⟨[71],[],[72],[]⟩,⟨[5],[],[73],[]⟩,⟨[9],[],[74],[]⟩,⟨[8],[],[75],[]⟩,⟨[74,75],[],[76],[]⟩,⟨[76],[],[77],[]⟩,⟨[73,77],[46],[78],[]⟩,⟨[78],[46],[79],[]⟩,⟨[79],[],[80],[]⟩,⟨[72,80],[],[81],[]⟩,⟨[81],[],[10],[]⟩] rF rF dC,[(4,_),(5,_),(6,_),(7,_),(8,_),(9,_),(10,vw U)],[(46,_),(55,_)],⟨rfl,rfl,rfl,rfl,rfl,rfl,oi oM rfl,trivial⟩,t2,?_⟩
    refine exr (mV L rfl (mV L rfl (mV L rfl (sw (c_su L (w64 oM oM)) t2 t0 (sw (ixJ un43 sz119 (j:=m+1) rO oM sM L) t2 t0 ?_)))))
    refine sw (c_li ag119 (by first | exact getW oM | rfl) L) t1 t0 ?_
    refine sw (c_cv un119 un127 L (fu64 oM oM)) t1 t0 (sw (c_q L oM (tdivE oM oM)) t2 t0 (aV L rfl (zn [(4,_),(5,_),(6,_),(7,_),(8,_),(9,_),(11,_)] [(46,_),(55,_)] t7 t2 (ex_seq (exr (mV L rfl (sw (c_gt L) t2 t0 (zn [(4,_),(5,_),(6,_),(7,_),(8,_),(9,_),(11,_),(91,_)] [(46,_),(55,_)] t8 t2 ?_))))))))
    obtain ⟨q,hq⟩:∃ q,q=if 4294967295<U / Dv.getD (m+1) 0 then 4294967295 else U / Dv.getD (m+1) 0:=⟨_,rfl⟩
    have hqb:val win / val Dv≤q∧0≤q∧q<4294967296:=by rw [hq]; split <;> omega
    refine ex_cut (sl:=[(11,vw q)]) (sl0:=[(4,_),(5,_),(6,_),(7,_),(8,_),(9,_)]) (hb:=[]) (hb0:=[(46,_),(55,_)]) t6 t2 ?_ ?_
    ·refine ex_if rfl (fun hg=>?_) (fun hg=>?_)
     ·have hg:=dt hg
      refine exr0 (aV L rfl (seq_nil ?_))
      exact ⟨⟨oi (by rw [hq,if_pos hg]) rfl,oR,oR,oR,oR,oR,oR,trivial⟩,t2⟩
     ·have hg:=df hg
      refine ex_skip ?_
      exact ⟨⟨oi (by rw [hq,if_neg hg]) rfl,oR,oR,oR,oR,oR,oR,trivial⟩,t2⟩
    ·refine exr (aV L rfl (aV L rfl (zn [(4,_),(5,_),(6,_),(7,_),(8,_),(9,_),(11,_),(12,_),(13,_)] [(46,_),(55,_)] t9 t2 (ex_seq (exr (aV L rfl (zn [(4,_),(5,_),(6,_),(7,_),(8,_),(9,_),(11,_),(12,_),(13,_),(14,_)] [(46,_),(55,_)] t10 t2 (ex_block ?_))))))))
     refine exl (α:=(Nat×List Int×Int×Int)) (fun y=>[(14,vi (y.1:Int)),(12,vw y.2.2.1),(13,vw y.2.2.2)]) (fun y=>[(46,⟨119,1,.pure (encW (xs++((y.2.1++win.drop y.1)++zs)))⟩)]) (fun y=>TakeAt win Dv q y) (fun y=>win.length - y.1) (((0:Nat),([]:List Int),(0:Int),(0:Int))) (sl:=[(4,_),(5,_),(6,_),(7,_),(8,_),(9,_),(11,_)]) (hb:=[(55,_)]) ?_ ⟨oR,oR,oR,rfl,rfl,rfl,rfl,rfl,rfl,rfl,trivial⟩ ⟨obl rfl sM,rfl,trivial⟩ ?_
     ·exact TakeAt.zero win Dv q
     intro y hy
     obtain ⟨j,ys,c,b⟩:=y
     have hylen:=hy.len
     have hyle:=hy.le
     have c0:=hy.c0
     have c1:=hy.c1
     have hb:=hy.b
     simp only at hylen hyle c0 c1 hb
     dsimp only
     have hu:=w1.getD j
     have hwd:=hDwd.getD j
     refine ex_seq (exr (mV L rfl (mV L rfl (sw (c_le L) t2 t0 (zn [(4,_),(5,_),(6,_),(7,_),(8,_),(9,_),(11,_),(12,_),(13,_),(14,_),(94,_)] [(46,_),(55,_)] t11 t2 ?_)))))
     refine ex_if rfl (fun hf=>?_) (fun hf=>?_)
     ·have hf:=dt hf
      have tb:=take_bd ⟨hqb.2.1,hqb.2.2⟩ hwd ⟨c0,c1⟩
      have mb:=mul_bd ⟨hqb.2.1,hqb.2.2⟩ hwd
      rw [Int.mul_comm] at mb
      obtain ⟨p,hp⟩:∃ p,p=q*Dv.getD j 0+c:=⟨_,rfl⟩
      have hp2:Dv.getD j 0*q+c=p:=by rw [hp,Int.mul_comm]
      rw [← hp] at tb
      have key2:=hy.next hDwd ⟨hqb.2.1,hqb.2.2⟩ oM hp rfl rfl hu
      refine ex_skip (xq ?_)
      refine ex_seq (ex_block (exr (mV L rfl (mV L rfl (cK hG hX cl145 hN (rword_says Dv oM hDwd j oM) L t2 (mV L rfl (sw (c_mu L (fu64 oM oM)) t2 t0 (mV L rfl (sw (c_ad L (fu64 oM oM)) t2 t0 (aV L rfl ?_))))))))))
      refine seq_nil ⟨[(4,_),(5,_),(6,_),(7,_),(8,_),(9,_),(11,_),(13,_),(14,_),(15,vw p)],[(46,_),(55,_)],⟨rfl,rfl,rfl,rfl,rfl,rfl,rfl,rfl,rfl,oi hp2 rfl,trivial⟩,t2,?_⟩
      refine exr (mV L rfl (sw (c_sr L dC (shrE (c:=4294967296) rF dC)) t2 t0 ?_))
      refine aV L rfl (zn [(4,_),(5,_),(6,_),(7,_),(8,_),(9,_),(11,_),(12,_),(13,_),(14,_),(15,_)] [(46,_),(55,_)] t11 t2 (exr (mV L rfl (mV L rfl (mV L rfl (sw (c_ad L (w64 oM oM)) t2 t0 (sw (ixR0 un43 sz119 (by exact sO) (j:=i+j) rO oM L) t2 t1 ?_)))))))
      refine sw (c_l1 ag119 (by exact sO) (getC (getM2 hti hylen oM)) L) t1 t1 ?_
      refine sw (c_cv un119 un127 L (fu64 oM oM)) t1 t0 (sw (c_ad L (fu64 oM oM)) t2 t0 (mV L rfl (sw (c_an L (and32 oM oM)) t2 t0 (sw (c_su L (fu64 oM oM)) t2 t0 (mV L rfl (sw (c_su L (fu64 oM oM)) t2 t0 (aV L rfl (zn [(4,_),(5,_),(6,_),(7,_),(8,_),(9,_),(11,_),(12,_),(14,_),(16,_)] [(46,_),(55,_)] t10 t2 (exr (mV L rfl (mV L rfl ?_)))))))))))
      refine mV L rfl (sw (c_ad L (w64 oM oM)) t2 t0 (mV L rfl (sw (c_cv un127 un119 L (show _=(win.getD j 0 - p % 4294967296 - b) % 4294967296 by rw [wu32]; omega)) t1 t0 ?_)))
      refine sw (ixR0 un43 sz119 (by exact sO) (j:=i+j) rO oM L) t2 t1 ?_
      refine sb (c_s1 sz119 (by exact sO) (.atom rfl) oM) t2 t1 ?_
      refine zn [(4,_),(5,_),(6,_),(7,_),(8,_),(9,_),(11,_),(12,_),(14,_),(16,_)] [(46,_),(55,_)] t10 t2 (exr0 (mV L rfl (sw (c_sr L dC (shrE (c:=4294967296) rF dC)) t2 t0 ?_)))
      refine sw (c_su L wu64) t2 t0 (aV L rfl (seq_nil (exr0 (mV L rfl (sw (c_ad L (w64 oM oM)) t2 t0 (aV L rfl (seq_nil ?_)))))))
      exact ⟨(j+1,ys++[(win.getD j 0 - p % 4294967296 - b) % 4294967296],p / 4294967296,if win.getD j 0<p % 4294967296+b then 1 else 0),key2,(by simp only; omega),le_of ⟨oR,oR,oi (by simp only; split <;> omega) rfl,rfl,rfl,rfl,rfl,rfl,rfl,rfl,trivial⟩ ⟨obl rfl (by rw [encW_set,mid_set2 hti hylen oM]),rfl,trivial⟩⟩
     ·have hf:=df hf
      have hj:j=win.length:=by omega
      subst hj
      have hst:=LowerAt.start w1 oM hDwd ⟨hqb.2.1,hqb.2.2⟩ hqb.1 hy
      have el:ys++win.drop win.length=ys:=by simp
      refine ex_exit (xq ?_)
      refine ex_seq (ex_block ?_)
      refine exl (α:=(Int×List Int×Int)) (fun z=>[(11,vw z.1),(13,vw z.2.2)]) (fun z=>[(46,⟨119,1,.pure (encW (xs++(z.2.1++zs)))⟩)]) (fun z=>LowerAt win Dv z) (fun z=>z.1.toNat) ((q,ys,b)) (sl:=[(4,_),(5,_),(6,_),(7,_),(8,_),(9,_)]) (hb:=[(55,_)]) ?_ ⟨oR,oR,rfl,rfl,rfl,rfl,rfl,rfl,trivial⟩ ⟨obl rfl (by rw [el]),rfl,trivial⟩ ?_
      ·exact hst
      intro z hz
      obtain ⟨q,v1,b⟩:=z
      have zlen:=hz.len
      have zwd:=hz.wd
      have zb:=hz.b
      have zq:=hz.q
      simp only at zlen zwd zb zq
      dsimp only
      refine ex_seq (exr (mV L rfl (sw (c_gt L) t2 t0 (zn [(4,_),(5,_),(6,_),(7,_),(8,_),(9,_),(11,_),(13,_),(130,_)] [(46,_),(55,_)] t9 t2 ?_))))
      refine ex_if rfl (fun hg=>?_) (fun hg=>?_)
      ·have hg:=dt hg
       have hb1:b=1:=by omega
       subst hb1
       have hqp:=hz.pos w1 hDpos
       refine ex_skip (xq ?_)
       refine ex_block (exr (mV L rfl (sw (c_su L (fu64 oM oM)) t2 t0 (aV L rfl (zn [(4,_),(5,_),(6,_),(7,_),(8,_),(9,_),(11,_),(13,_)] [(46,_),(55,_)] t8 t2 (exr (aV L rfl (zn [(4,_),(5,_),(6,_),(7,_),(8,_),(9,_),(11,_),(12,_),(13,_)] [(46,_),(55,_)] t9 t2 (ex_seq (exr (aV L rfl ?_)))))))))))
       refine zn [(4,_),(5,_),(6,_),(7,_),(8,_),(9,_),(11,_),(12,_),(13,_),(17,_)] [(46,_),(55,_)] t10 t2 (ex_block ?_)
       refine exl (α:=(Nat×List Int×Int)) (fun y=>[(17,vi (y.1:Int)),(12,vw y.2.2)]) (fun y=>[(46,⟨119,1,.pure (encW (xs++((y.2.1++v1.drop y.1)++zs)))⟩)]) (fun y=>BackAt v1 Dv y) (fun y=>win.length - y.1) (((0:Nat),([]:List Int),(0:Int))) (sl:=[(4,_),(5,_),(6,_),(7,_),(8,_),(9,_),(11,_),(13,_)]) (hb:=[(55,_)]) ?_ ⟨oR,oR,rfl,rfl,rfl,rfl,rfl,rfl,rfl,rfl,trivial⟩ ⟨obl rfl sM,rfl,trivial⟩ ?_
       ·exact BackAt.zero v1 Dv
       intro y hy
       obtain ⟨j,us,e⟩:=y
       have hylen:=hy.len
       have hyle:=hy.le
       have hc:=hy.c
       simp only at hylen hyle hc
       dsimp only
       have hu:=zwd.getD j
       have hwd:=hDwd.getD j
       refine ex_seq (exr (mV L rfl (mV L rfl (sw (c_le L) t2 t0 (zn [(4,_),(5,_),(6,_),(7,_),(8,_),(9,_),(11,_),(12,_),(13,_),(17,_),(135,_)] [(46,_),(55,_)] t11 t2 ?_)))))
       refine ex_if rfl (fun hf=>?_) (fun hf=>?_)
       ·have hf:=dt hf
        have key2:=hy.next zwd hDwd oM rfl
        refine ex_skip (xq ?_)
        refine ex_seq (ex_block (exd rF ?_))
        refine mV L rfl (mV L rfl (mV L rfl (sw (c_ad L (w64 oM oM)) t2 t0 (sw (ixR0 un43 sz119 (by exact sO) (j:=i+j) rO oM L) t2 t1 ?_))))
        refine sw (c_l1 ag119 (by exact sO) (getC (getM2 hti hylen oM)) L) t1 t1 ?_
        refine sw (c_cv un119 un127 L (fu64 oM oM)) t1 t0 (mV L rfl (mV L rfl (cK hG hX cl145 hN (rword_says Dv oM hDwd j oM) L t2 (sw (c_ad L (fu64 oM oM)) t2 t0 (mV L rfl (sw (c_ad L (fu64 oM oM)) t2 t0 (aV L rfl ?_)))))))
        refine seq_nil ⟨aoks [⟨[5],[],[138],[]⟩,⟨[9],[],[139],[]⟩,⟨[17],[],[140],[]⟩,⟨[139,140],[],[141],[]⟩,⟨[138,141],[46],[142],[]⟩,⟨[142],[46],[143],[]⟩,⟨[143],[],[144],[]⟩,⟨[7],[],[145],[]⟩,⟨[17],[],[146],[]⟩,⟨[145,146],[],[147],[]⟩,⟨[144,147],[],[148],[]⟩,⟨[12],[],[149],[]⟩,⟨[148,149],[],[150],[]⟩,⟨[150],[],[18],[]⟩] rF rF dC,[(4,_),(5,_),(6,_),(7,_),(8,_),(9,_),(11,_),(13,_),(17,_),(18,_)],[(46,_),(55,_)],t10,t2,?_⟩
        refine exr (mV L rfl (mV L rfl (mV L rfl (sw (c_ad L (w64 oM oM)) t2 t0 (mV L rfl (sw (c_cv un127 un119 L wu32) t1 t0 (sw (ixR0 un43 sz119 (by exact sO) (j:=i+j) rO oM L) t2 t1 ?_)))))))
        refine sb (c_s1 sz119 (by exact sO) (.atom rfl) oM) t2 t1 ?_
        refine zn [(4,_),(5,_),(6,_),(7,_),(8,_),(9,_),(11,_),(13,_),(17,_),(18,_)] [(46,_),(55,_)] t10 t2 (exr0 (mV L rfl (sw (c_sr L dC (shrE (c:=4294967296) rF dC)) t2 t0 ?_)))
        refine aV L rfl (seq_nil (exr0 (mV L rfl (sw (c_ad L (w64 oM oM)) t2 t0 (aV L rfl (seq_nil ?_))))))
        exact ⟨(j+1,us++[(v1.getD j 0+Dv.getD j 0+e) % 4294967296],(v1.getD j 0+Dv.getD j 0+e) / 4294967296),key2,(by simp only; omega),le_of ⟨oR,oR,rfl,rfl,rfl,rfl,rfl,rfl,rfl,rfl,trivial⟩ ⟨obl rfl (by rw [encW_set,mid_set2 hti hylen oM]),rfl,trivial⟩⟩
       ·have hf:=df hf
        have hj:j=win.length:=by omega
        subst hj
        obtain ⟨lm,-⟩:=hz.more w1 oM hDwd hDpos hy
        have el:us++v1.drop win.length=us:=by rw [← zlen]; simp
        refine ex_exit (xq ?_)
        refine exr0 (mV L rfl (mV L rfl (sw (c_su L (fu64 oM oM)) t2 t0 (aV L rfl (seq_nil ?_)))))
        exact ⟨(q - 1,us,1 - e),lm,(by simp only; omega),le_of ⟨oR,oR,rfl,rfl,rfl,rfl,rfl,rfl,trivial⟩ ⟨obl rfl (by rw [el]),rfl,trivial⟩⟩
      ·have hg:=df hg
       have hb0:b=0:=by omega
       subst hb0
       obtain ⟨d1,d2⟩:=hz.done w1 hDpos
       have hrest:xs++(digN win.length (val win % val Dv)++zs)=restAt W (m+2) i (val win % val Dv):=by
        rw [w2,hzs,hxs,restAt_next (Int.emod_nonneg _ oM) (by have:=Int.emod_lt_of_pos (val win) hDpos; omega) oM]
       rw [d2,hrest,d1]
       refine ex_exit (xq ?_)
       refine exr0 (mV L rfl (mV L rfl (mV L rfl (sw (c_cv un127 un119 L (fu32 oM oM)) t1 t0 (sw (ixR0 un43 sz119 (by exact sO) (j:=i) rO oM L) t2 t1 ?_)))))
       refine sb (c_s1 sz119 (by exact sO) (.atom rfl) oM) t2 t1 ?_
       refine seq_nil (exr0 (mV L rfl (sw (c_su L (w64 oM oM)) t2 t0 (aV L rfl (seq_nil ?_)))))
       exact ⟨(i,val win % val Dv,val win / val Dv :: qs),key,(by simp only; omega),le_of ⟨oR,rfl,rfl,rfl,rfl,rfl,trivial⟩ ⟨rfl,obl rfl (by rw [encW_set,q_set]),trivial⟩⟩
   ·have he:=df he
    have hr0:r=0:=by omega
    subst hr0
    have heq:=hx.eq
    have hqw:=hx.wd
    simp only [List.drop_zero] at heq hqw
    rw [hDv,hWv] at heq
    rw [hDv] at hr
    obtain ⟨pe1,pe2⟩:=part_end hv heq hr
    obtain ⟨X,hXe⟩:∃ X,X=restAt W (m+2) 0 R:=⟨_,rfl⟩
    have hXl:X.length=W.length:=by rw [hXe,restAt_length oM]
    have hXw:Wd X:=by rw [hXe]; exact restAt_wd hWd
    have hXv:val X=R:=by
     rw [hXe,rest_zero,val_append,val_rep,Int.mul_zero,Int.add_zero,val_digN hr.1 (by rw [hDv] at hDlt; omega)]
    rw [← hXe]
    simp only [List.replicate_zero,List.nil_append]
    refine ex_exit (xq ?_)
    refine ex_cv [46,55] (sl:=[(4,_),(5,_),(6,_)]) (hb:=[]) (own_none hX0) ⟨⟨_,rfl,(.ref rfl rfl (by exact sO) (by first | rfl | omega))⟩,⟨_,rfl,(.ref rfl rfl (by exact (by simp [restAt_length hle] <;> omega)) (by first | rfl | omega))⟩,⟨_,rfl,.same⟩,trivial⟩ t0 ?_
    have a1:Says E 147 [.sl (W.length - (m+2)) (encW qs)] (pW (digs (val ws / val vs).toNat)):=by
     have:=rtrim_says qs oM
     rw [trim_eq_digs hqw,pe1] at this
     rw [show W.length - (m+2)=qs.length by omega]; exact this
    have a2:Says E 147 [.sl W.length (encW X)] (pW (digs R.toNat)):=by
     have:=rtrim_says X oM
     rw [trim_eq_digs hXw,hXv] at this
     rw [← hXl]; exact this
    have dl:(digs R.toNat).length≤m+2:=dlen hr.1 (by rw [hDv] at hDlt; omega)
    have a3:=runshift_says (digs R.toNat) k oM (wd_digs _) oM
    rw [val_digs,show ((R.toNat:Nat):Int)=R by omega,pe2] at a3
    refine exr (mV L rfl (cK hG hX cl147 hN a1 L t1 (mV L rfl (cK hG hX cl147 hN a2 L t1 (mV L rfl (cK hG hX cl168 hN a3 L t2 (aV L rfl (aV L rfl (zn [(4,_),(5,_)] [] t2 trivial (ex_ret ?_))))))))))
    refine ⟨.inr rfl,ResVs.cast (.cons (.tmp rfl) (.cons (.tmp rfl) .nil)) ?_⟩
    rfl
theorem emod_small' {b c:Int}(h0:0≤c)(h1:c<b.natAbs):c % b=c:=by
 by_cases hb:0<b
 ·exact Int.emod_eq_of_lt h0 oM
 ·obtain ⟨d,rfl⟩:∃ d,b = -d:=⟨-b,by omega⟩
  rw [Int.emod_neg]; exact Int.emod_eq_of_lt h0 oM
theorem div_back' {a b c:Int}(hb:b≠0)(h0:0≤c)(h1:c<b.natAbs):(a*b+c) / b=a∧(a*b+c) % b=c:=by
 have e1:(a*b+c) % b=c:=by
  rw [Int.add_comm,Int.add_mul_emod_self_right]; exact emod_small' h0 h1
 refine ⟨?_,e1⟩
 have:=Int.mul_ediv_add_emod (a*b+c) b
 rw [e1] at this
 have e2:b*((a*b+c) / b)=b*a:=by rw [Int.mul_comm b a]; omega
 exact Int.eq_of_mul_eq_mul_left hb e2
theorem put_right {x y:Int}(hy:y≠0):(0≤x.tmod y→x.tdiv y=x / y∧x.tmod y=x % y)∧(x.tmod y<0→x.tmod y+(if y<0 - y then 0 - y else y)=x % y∧(x - x % y).tdiv y=x / y)∧-(y.natAbs:Int)<x.tmod y∧x.tmod y<y.natAbs∧(x.tdiv y).natAbs≤x.natAbs∧(x / y).natAbs≤x.natAbs+1:=by
 have h1:=Int.mul_tdiv_add_tmod x y
 have h2:(x.tmod y).natAbs<y.natAbs:=by
  rw [Int.natAbs_tmod]; exact Nat.mod_lt _ oM
 have h3:=Int.natAbs_tdiv_le_natAbs x y
 have hmax:(if y<0 - y then 0 - y else y)=(y.natAbs:Int):=by split <;> omega
 have key1:0≤x.tmod y→x.tdiv y=x / y∧x.tmod y=x % y:=fun h=>by
  obtain ⟨e1,e2⟩:=div_back' (a:=x.tdiv y) (b:=y) (c:=x.tmod y) hy h oM
  rw [show x.tdiv y*y+x.tmod y=x by rw [Int.mul_comm]; exact h1] at e1 e2
  exact ⟨e1.symm,e2.symm⟩
 have key2:x.tmod y<0→∃ a:Int,a.natAbs≤x.natAbs+1∧x=a*y+(x.tmod y+y.natAbs):=fun h=>by
  rcases (show y<0∨0<y by omega) with c | c
  ·refine ⟨x.tdiv y+1,by omega,?_⟩
   have e:(y.natAbs:Int) = -y:=by omega
   have e2:(x.tdiv y+1)*y=y*x.tdiv y+y:=by grind
   rw [e,e2]; omega
  ·refine ⟨x.tdiv y - 1,by omega,?_⟩
   have e:(y.natAbs:Int)=y:=by omega
   have e2:(x.tdiv y - 1)*y=y*x.tdiv y - y:=by grind
   rw [e,e2]; omega
 refine ⟨key1,fun h=>?_,by omega,by omega,h3,?_⟩
 ·obtain ⟨a,-,ha⟩:=key2 h
  clear key1 key2
  obtain ⟨e1,e2⟩:=div_back' (a:=a) (b:=y) (c:=x.tmod y+y.natAbs) hy oM oM
  rw [← ha] at e1 e2
  refine ⟨by rw [hmax,e2],?_⟩
  rw [e2,e1,show x - (x.tmod y+(y.natAbs:Int))=a*y from Int.sub_eq_iff_eq_add.2 ha,Int.mul_tdiv_cancel _ hy]
 ·by_cases h:0≤x.tmod y
  ·rw [← (key1 h).1]; exact Nat.le_succ_of_le h3
  ·obtain ⟨a,hal,ha⟩:=key2 (Int.not_le.1 h)
   clear key1 key2
   obtain ⟨e1,-⟩:=div_back' (a:=a) (b:=y) (c:=x.tmod y+y.natAbs) hy oM oM
   rw [← ha] at e1
   rw [e1]; exact hal
theorem rdiv_says (m n:Bool)(ws vs:List Int)(hl:ws.length<99999999999)(hl2:vs.length<99999999999)(h:Wd ws)(h2:Wd vs):Says E 146 [pI m ws,pI n vs] (.tup [pZ (dQ m n ws vs),pZ (dR m n ws vs),vZ (dE m n ws vs)]):=by
 refine says_of (xs:=[pZ (dQ m n ws vs),pZ (dR m n ws vs),vZ (dE m n ws vs)]) Tryz.func146 rfl Tryz.ntmps146 Tryz.results146 sM fun F hG hX0 hnt hdf P0=>?_
 obtain ⟨L,hX,hN⟩:=pro hnt hX0 hG
 refine exr (swb (c_bx (k:=2) (n:=2) pa2 rfl rfl (P0 _ rfl) L) t1 t0 ⟨rfl,rfl⟩ (swb (c_bx (k:=3) (n:=2) pa2 rfl rfl (P0 _ rfl) L) t1 t0 ⟨rfl,rfl⟩ (swb (c_al (k:=4) (n:=2) zv45 (.cons rfl (.cons rfl .nil)) rfl (P0 _ rfl) L) t0 t0 ⟨rfl,rfl⟩ (swb (c_al (k:=5) (n:=2) zv45 (.cons rfl (.cons rfl .nil)) rfl (P0 _ rfl) L) t0 t0 ⟨rfl,rfl⟩ (aV L rfl (zn [(2,_),(3,_),(4,_),(5,_)] [(2,_),(3,_),(4,_),(5,_)] t4 t4 (ex_seq ?_)))))))
 refine exm (sl:=[(22,vb (decide (¬ (canon m ws=true∧canon n vs=true))))]) (sl0:=[(2,_),(3,_),(4,_),(5,_)]) (hb:=[]) (hb0:=[(2,_),(3,_),(4,_),(5,_)]) t4 t4 ?_ ?_
 ·by_cases hca:canon m ws=true
  ·refine lp2 ag45 sz45 L rfl rfl (cK hG hX cl77 hN (ris_says m ws oM) L t1 (sw (c_no L) t1 t0 (mV L rfl (swg (g:=18) rfl (by simp [hca]) (c_lp ag45 sz45 rF (by exact al2) rfl L) rfl t1 t1 ?_))))
   refine swg (g:=18) rfl (by simp [hca]) (c_c hG hX cl77 rfl hN (ris_says n vs oM) L) rfl t1 t0 ?_
   refine swg (g:=18) rfl (by simp [hca]) (c_no L) rfl t1 t0 ?_
   refine sw (c_pf (by simp [hca]) L) t2 t0 ?_
   exact seq_nil ⟨⟨ob rfl (by simp [hca]),rfl,rfl,rfl,rfl,trivial⟩,t4⟩
  ·refine lp2 ag45 sz45 L rfl rfl (cK hG hX cl77 hN (ris_says m ws oM) L t1 (sw (c_no L) t1 t0 (mV L rfl (swn (g:=18) rfl (by simp [hca]) L rfl ?_))))
   refine swn (g:=18) rfl (by simp [hca]) L rfl ?_
   refine swn (g:=18) rfl (by simp [hca]) L rfl ?_
   refine sw (c_pt (by simp [hca]) L) t2 t0 ?_
   exact seq_nil ⟨⟨ob rfl (by simp [hca]),rfl,rfl,rfl,rfl,trivial⟩,t4⟩
 refine ex_if rfl (fun hc=>?_) (fun hc=>?_)
 ·have hc:=dt hc
  refine exd rF ?_
  refine sw (c_pc (c_lp ag45 sz45 rF (by exact al2) rfl L) (.agg (.cons .same (.cons .nil .nil)))) t1 t1 ?_
  refine sw (c_pc (c_lp ag45 sz45 rF (by exact al2) rfl L) (.agg (.cons .same (.cons .nil .nil)))) t1 t1 ?_
  refine sb (c_sm sz45 rF pa2 rfl pu2) t2 t1 ?_
  refine sb (c_sm sz45 rF pa2 rfl pu2) t2 t1 ?_
  refine aV L rfl ?_
  refine seq_nil ⟨aoks [⟨[4],[4],[23],[]⟩,⟨[5],[5],[24],[]⟩,⟨[4,23],[4],[],[4]⟩,⟨[5,24],[5],[],[5]⟩,⟨[],[],[6],[]⟩] rF rF dC,[(4,_),(5,_),(6,_)],[(4,_),(5,_)],t3,t2,?_⟩
  refine ex_ret ?_
  refine ⟨.inr rfl,ResVs.cast (.cons (.agg rfl rfl rfl ag45 sz45 (.cons (.cons .nil))) (.cons (.agg rfl rfl rfl ag45 sz45 (.cons (.cons .nil))) (.cons (.tmp rfl) .nil))) ?_⟩
  rw [dQ,dR,dE,if_neg hc,if_neg (fun hh=>hc ⟨hh.1,hh.2.1⟩),if_neg hc,pZ_zero]; rfl
 ·have hc:=Decidable.not_not.1 (df hc)
  have ht:=(canon_tr hc.1).1
  have ht2:=(canon_tr hc.2).1
  refine ex_skip (xq ?_)
  refine ex_seq (exr (sw (c_fa un45 rfl sz43 dC rX L) t1 t1 ?_))
  refine sw (c_l1 ag43 rF rF L) t1 t1 ?_
  refine sw (c_ln un43 L) t1 t0 (sw (c_e L) t2 t0 (zn [(2,_),(3,_),(4,_),(5,_),(28,_)] [(2,_),(3,_),(4,_),(5,_)] t5 t4 ?_))
  refine ex_if rfl (fun hz=>?_) (fun hz=>?_)
  ·have hz:=dt hz
   have e:vs=[]:=List.eq_nil_of_length_eq_zero oM
   subst e
   have e0:sg n (val [])=0:=by cases n <;> rfl
   refine exd rF ?_
   refine sw (c_pc (c_lp ag45 sz45 rF (by exact al2) rfl L) (.agg (.cons .same (.cons .nil .nil)))) t1 t1 ?_
   refine sw (c_pc (c_lp ag45 sz45 rF (by exact al2) rfl L) (.agg (.cons .same (.cons .nil .nil)))) t1 t1 ?_
   refine sb (c_sm sz45 rF pa2 rfl pu2) t2 t1 ?_
   refine sb (c_sm sz45 rF pa2 rfl pu2) t2 t1 ?_
   refine aV L rfl ?_
   refine seq_nil ⟨aoks [⟨[4],[4],[29],[]⟩,⟨[5],[5],[30],[]⟩,⟨[4,29],[4],[],[4]⟩,⟨[5,30],[5],[],[5]⟩,⟨[],[],[6],[]⟩] rF rF dC,[(4,_),(5,_),(6,_)],[(4,_),(5,_)],t3,t2,?_⟩
   refine ex_ret ?_
   refine ⟨.inr rfl,ResVs.cast (.cons (.agg rfl rfl rfl ag45 sz45 (.cons (.cons .nil))) (.cons (.agg rfl rfl rfl ag45 sz45 (.cons (.cons .nil))) (.cons (.tmp rfl) .nil))) ?_⟩
   rw [dQ,dR,dE,if_pos hc,if_neg (fun hh=>hh.2.2 rfl),if_pos hc,if_pos (show ([]:List Int).length=0 from rfl),e0,Int.ediv_zero,pZ_zero]; rfl
  ·have hz:=df hz
   have hv:=val_pos h2 ht2 oM
   have a0:=val_nonneg h
   have r0:=Int.emod_nonneg (val ws) (show val vs≠0 by omega)
   have q0:=Int.ediv_nonneg a0 (Int.le_of_lt hv)
   have r1:=Int.emod_lt_of_pos (val ws) hv
   have q1:=Int.ediv_le_self (val vs) a0
   have dsg:=div_sg (m:=m) (n:=n) a0 hv
   have hQ:dQ m n ws vs=sg m (val ws) / sg n (val vs):=by rw [dQ,if_pos hc]
   have hR:dR m n ws vs=sg m (val ws) % sg n (val vs):=by rw [dR,if_pos ⟨hc.1,hc.2,by omega⟩]
   have hE:dE m n ws vs=0:=by rw [dE,if_pos hc,if_neg oM]
   rw [hQ,hR,hE]
   refine ex_skip (xq ?_)
   refine exr (lp2 ag45 sz45 L rfl rfl (cK hG hX cl118 hN (rnative_says m ws oM h ht) L t1 (mV L rfl (sw (c_ex rfl L) t1 t0 (sw (c_ex rfl L) t1 t0 (aV L rfl (aV L rfl (zn [(2,_),(3,_),(4,_),(5,_),(7,_),(8,_)] [(2,_),(3,_),(4,_),(5,_)] t6 t4 (exr (lp2 ag45 sz45 L rfl rfl (cK hG hX cl118 hN (rnative_says n vs oM h2 ht2) L t1 ?_)))))))))))
   refine mV L rfl (sw (c_ex rfl L) t1 t0 (sw (c_ex rfl L) t1 t0 (aV L rfl (aV L rfl (zn [(2,_),(3,_),(4,_),(5,_),(7,_),(8,_),(9,_),(10,_)] [(2,_),(3,_),(4,_),(5,_)] t8 t4 (ex_seq ?_))))))
   refine exm (sl:=[(44,vb (decide (val ws<4611686018427387904∧val vs<4611686018427387904)))]) (sl0:=[(2,_),(3,_),(4,_),(5,_),(7,_),(9,_)]) (hb:=[]) (hb0:=[(2,_),(3,_),(4,_),(5,_)]) t6 t4 ?_ ?_
   ·by_cases hs1:val ws<4611686018427387904
    ·refine mV L rfl (mV L rfl (gV (g:=42) rfl (decide_eq_true hs1) L rfl rfl (sw (c_pt (decide_eq_true hs1) L) t2 t0 ?_)))
     exact seq_nil ⟨⟨ob rfl (dec_eq ⟨fun c=>⟨hs1,c⟩,fun c=>c.2⟩),rfl,rfl,rfl,rfl,rfl,rfl,trivial⟩,t4⟩
    ·refine mV L rfl (mV L rfl (swn (g:=42) rfl (decide_eq_false hs1) L rfl (sw (c_pf (decide_eq_false hs1) L) t2 t0 ?_)))
     exact seq_nil ⟨⟨ob rfl (decide_eq_false (fun c=>hs1 c.1)).symm,rfl,rfl,rfl,rfl,rfl,rfl,trivial⟩,t4⟩
   refine ex_if rfl (fun hs=>?_) (fun hs=>?_)
   ·have hs:=dt hs
    rw [if_pos hs.1,if_pos hs.2]
    obtain ⟨x,hx⟩:∃ x,x=sg m (val ws):=⟨_,rfl⟩
    obtain ⟨y,hy⟩:∃ y,y=sg n (val vs):=⟨_,rfl⟩
    have bx:x.natAbs<4611686018427387904:=by rw [hx]; unfold sg; split <;> omega
    have by':y.natAbs<4611686018427387904∧y≠0:=by rw [hy]; unfold sg; split <;> omega
    rw [← hx,← hy]
    obtain ⟨p1,p2,p3,p4,p5,p6⟩:=put_right (x:=x) by'.2
    have m0:=Int.emod_nonneg x by'.2
    have m1:=Int.emod_lt x by'.2
    refine exd rF ?_
    refine mV L rfl (mV L rfl (sw (c_q L by'.2 (show _=x.tdiv y from w64 oM oM)) t2 t0 (mV L rfl (mV L rfl (sw (c_r L by'.2 rfl) t2 t0 (aV L rfl (aV L rfl ?_)))))))
    refine seq_nil ⟨aoks [⟨[7],[],[45],[]⟩,⟨[9],[],[46],[]⟩,⟨[45,46],[],[47],[]⟩,⟨[7],[],[48],[]⟩,⟨[9],[],[49],[]⟩,⟨[48,49],[],[50],[]⟩,⟨[47],[],[11],[]⟩,⟨[50],[],[12],[]⟩] rF rF dC,[(4,_),(5,_),(7,_),(9,_),(11,_),(12,_)],[(4,_),(5,_)],t6,t2,?_⟩
    refine ex_seq (exr (mV L rfl (sw (c_ls L) t2 t0 (zn [(4,_),(5,_),(7,_),(9,_),(11,_),(12,_),(52,_)] [(4,_),(5,_)] t7 t2 ?_))))
    refine ex_cut (sl:=[(11,vi (x / y)),(12,vi (x % y))]) (sl0:=[(4,_),(5,_)]) (hb:=[]) (hb0:=[(4,_),(5,_)]) t2 t2 ?_ ?_
    ·refine ex_if rfl (fun ht=>?_) (fun ht=>?_)
     ·have ht:=dt ht
      obtain ⟨e1,e2⟩:=p2 ht
      refine exr (mV L rfl (mV L rfl (mV L rfl (sw (c_ng L (show _=0 - y from w64 oM oM)) t1 t0 (sw (c_mx L) t2 t0 (sw (c_ad L (show _=x % y by rw [e1]; exact w64 oM oM)) t2 t0 ?_))))))
      refine aV L rfl (zn [(4,_),(5,_),(7,_),(9,_),(12,_)] [(4,_),(5,_)] t5 t2 (exr0 (mV L rfl (mV L rfl (sw (c_su L (show _=x - x % y from w64 oM oM)) t2 t0 (mV L rfl (sw (c_q L by'.2 (show _=x / y by rw [e2]; exact w64 oM oM)) t2 t0 ?_)))))))
      refine aV L rfl (seq_nil ?_)
      exact ⟨⟨oR,oR,oR,oR,trivial⟩,t2⟩
     ·have ht:=df ht
      obtain ⟨e1,e2⟩:=p1 oM
      refine ex_skip ?_
      exact ⟨⟨oi e1 rfl,oi e2 rfl,oR,oR,trivial⟩,t2⟩
    ·refine exr (mV L rfl (cK hG hX cl119 hN (rof_says (x / y) oM oM) L t1 (mV L rfl (cK hG hX cl119 hN (rof_says (x % y) oM oM) L t1 (sb (c_sm sz45 rF pa2 rfl pu2) t2 t1 ?_)))))
     refine sb (c_sm sz45 rF pa2 rfl pu2) t2 t1 ?_
     refine aV L rfl (zn [(4,_),(5,_),(6,_)] [(4,_),(5,_)] t3 t2 (ex_ret ?_))
     refine ⟨.inr rfl,ResVs.cast (.cons (.agg rfl rfl rfl ag45 sz45 (.cons (.cons .nil))) (.cons (.agg rfl rfl rfl ag45 sz45 (.cons (.cons .nil))) (.cons (.tmp rfl) .nil))) ?_⟩
     rfl
   ·have hs:=df hs
    have dq1:(digs (val ws / val vs).toNat).length≤ws.length:=dlen q0 (by have:=val_lt h; omega)
    have dr1:(digs (val ws % val vs).toNat).length≤vs.length:=dlen r0 (by have:=val_lt h2; omega)
    have vq:val (digs (val ws / val vs).toNat)=val ws / val vs:=by rw [val_digs]; omega
    have vr:val (digs (val ws % val vs).toNat)=val ws % val vs:=by rw [val_digs]; omega
    rw [dsg.1,dsg.2]
    refine ex_skip (xq ?_)
    refine exr (sw (c_fa un45 rfl sz43 dC rX L) t1 t1 ?_)
    refine sw (c_l1 ag43 rF rF L) t1 t1 ?_
    refine sw (c_fa un45 rfl sz43 dC rX L) t1 t1 ?_
    refine sw (c_l1 ag43 rF rF L) t1 t1 ?_
    refine cK hG hX cl154 hN (rdivW_says ws vs oM oM h h2 ht ht2 hv) L t2 (mV L rfl (sw (c_ex rfl L) t1 t0 (sw (c_ex rfl L) t1 t0 (aV L rfl (aV L rfl (zn [(2,_),(3,_),(4,_),(5,_),(13,_),(14,_)] [(2,_),(3,_),(4,_),(5,_)] t6 t4 (ex_seq ?_)))))))
    refine exm (sl:=[(82,vb (decide (m=true∧val ws % val vs≠0)))]) (sl0:=[(2,_),(3,_),(4,_),(5,_),(13,_),(14,_)]) (hb:=[]) (hb0:=[(2,_),(3,_),(4,_),(5,_)]) t6 t4 ?_ ?_
    ·by_cases hm:m=true
     ·refine sw (c_fa un45 rfl sz4 dC rX L) t1 t1 ?_
      refine sw (c_l1 ag4 rF rF L) t1 t1 ?_
      refine mV L rfl (gV (g:=78) rfl hm L rfl rfl (swg (g:=78) rfl hm (c_ln un43 L) rfl t1 t0 (swg (g:=78) rfl hm (c_gt L) rfl t2 t0 (sw (c_pt hm L) t2 t0 ?_))))
      exact seq_nil ⟨⟨ob rfl (dec_eq (by have:=digs_len_zero (n:=(val ws % val vs).toNat); simp only [hm,true_and]; omega)),rfl,rfl,rfl,rfl,rfl,rfl,trivial⟩,t4⟩
     ·refine sw (c_fa un45 rfl sz4 dC rX L) t1 t1 ?_
      refine sw (c_l1 ag4 rF rF L) t1 t1 ?_
      refine mV L rfl (swn (g:=78) rfl (by simpa using hm) L rfl ?_)
      refine swn (g:=78) rfl (by simpa using hm) L rfl ?_
      refine swn (g:=78) rfl (by simpa using hm) L rfl ?_
      refine sw (c_pf (by simpa using hm) L) t2 t0 ?_
      exact seq_nil ⟨⟨ob rfl (decide_eq_false (fun c=>hm c.1)).symm,rfl,rfl,rfl,rfl,rfl,rfl,trivial⟩,t4⟩
    refine ex_if rfl (fun hd=>?_) (fun hd=>?_)
    ·have hd:=dt hd
     rw [if_pos hd,if_pos hd]
     have a1:=radd_says (digs (val ws / val vs).toNat) [1] oM sM (wd_digs _) (fun w hw=>by rw [List.mem_singleton] at hw; subst hw; decide)
     rw [vq,show val [1]=1 by simp [val]] at a1
     have a2:=rsub_says vs (digs (val ws % val vs).toNat) oM dr1 h2 (wd_digs _) oM
     rw [vr] at a2
     have l1:(digs (val ws / val vs+1).toNat).length≤ws.length+1:=dlen oM (by have:=val_lt h; have:=powle (show ws.length≤ws.length+1 by omega); have:=Bsucc ws.length; have:=Bpos ws.length; omega)
     have l2:(digs (val vs - val ws % val vs).toNat).length≤vs.length:=dlen oM (by have:=val_lt h2; omega)
     have a3:=rmade_says (m != n) (digs (val ws / val vs+1).toNat) oM (wd_digs _)
     rw [val_digs,show (((val ws / val vs+1).toNat:Nat):Int)=val ws / val vs+1 by omega] at a3
     have a4:=rmade_says false (digs (val vs - val ws % val vs).toNat) oM (wd_digs _)
     rw [val_digs,show (((val vs - val ws % val vs).toNat:Nat):Int)=val vs - val ws % val vs by omega] at a4
     refine exd0 rF ?_
     refine mV L rfl (sw (c_bI (vs:=[_]) un43 ti119 rfl rfl dC dC rfl (zs_made (.cons rfl .nil) rfl) rfl (.cons rfl (.atom rfl) rfl pu1 .nil) (.cons .nil) L) t1 t0 (cK hG hX cl142 hN a1 L t2 (sw (c_fa un45 rfl sz43 dC rX L) t1 t1 ?_)))
     refine sw (c_l1 ag43 rF rF L) t1 t1 ?_
     refine mV L rfl (cK hG hX cl144 hN a2 L t2 (aV L rfl (aV L rfl ?_)))
     refine seq_nil ⟨aoks [⟨[13],[],[83],[]⟩,⟨[],[],[84],[]⟩,⟨[83,84],[],[85],[]⟩,⟨[3],[3],[86],[]⟩,⟨[86],[3],[87],[]⟩,⟨[14],[],[88],[]⟩,⟨[87,88],[],[89],[]⟩,⟨[85],[],[13],[]⟩,⟨[89],[],[14],[]⟩] rF rF dC,?_⟩
     refine exr (sw (c_fa un45 rfl sz4 dC rX L) t1 t1 ?_)
     refine sw (c_l1 ag4 rF rF L) t1 t1 ?_
     refine sw (c_fa un45 rfl sz4 dC rX L) t1 t1 ?_
     refine sw (c_l1 ag4 rF rF L) t1 t1 ?_
     refine sw (c_bn un4 L) t2 t0 (mV L rfl (cK hG hX cl122 hN a3 L t2 (mV L rfl (cK hG hX cl122 hN a4 L t2 (sb (c_sm sz45 rF pa2 rfl pu2) t2 t1 ?_)))))
     refine sb (c_sm sz45 rF pa2 rfl pu2) t2 t1 ?_
     refine aV L rfl (zn [(4,_),(5,_),(6,_)] [(4,_),(5,_)] t3 t2 (ex_ret ?_))
     refine ⟨.inr rfl,ResVs.cast (.cons (.agg rfl rfl rfl ag45 sz45 (.cons (.cons .nil))) (.cons (.agg rfl rfl rfl ag45 sz45 (.cons (.cons .nil))) (.cons (.tmp rfl) .nil))) ?_⟩
     rfl
    ·have hd:=df hd
     rw [if_neg hd,if_neg hd]
     have a3:=rmade_says (m != n) (digs (val ws / val vs).toNat) oM (wd_digs _)
     rw [vq] at a3
     have a4:=rmade_says false (digs (val ws % val vs).toNat) oM (wd_digs _)
     rw [vr] at a4
     refine ex_skip (xq ?_)
     refine exr (sw (c_fa un45 rfl sz4 dC rX L) t1 t1 ?_)
     refine sw (c_l1 ag4 rF rF L) t1 t1 ?_
     refine sw (c_fa un45 rfl sz4 dC rX L) t1 t1 ?_
     refine sw (c_l1 ag4 rF rF L) t1 t1 ?_
     refine sw (c_bn un4 L) t2 t0 (mV L rfl (cK hG hX cl122 hN a3 L t2 (mV L rfl (cK hG hX cl122 hN a4 L t2 (sb (c_sm sz45 rF pa2 rfl pu2) t2 t1 ?_)))))
     refine sb (c_sm sz45 rF pa2 rfl pu2) t2 t1 ?_
     refine aV L rfl (zn [(4,_),(5,_),(6,_)] [(4,_),(5,_)] t3 t2 (ex_ret ?_))
     refine ⟨.inr rfl,ResVs.cast (.cons (.agg rfl rfl rfl ag45 sz45 (.cons (.cons .nil))) (.cons (.agg rfl rfl rfl ag45 sz45 (.cons (.cons .nil))) (.cons (.tmp rfl) .nil))) ?_⟩
     rfl
theorem rdivZ (a b:Int)(ha:nw a<99999999999)(hb:nw b<99999999999)(h0:b≠0):Says E 146 [pZ a,pZ b] (.tup [pZ (a / b),pZ (a % b),vZ 0]):=by
 have:=rdiv_says (decide (a<0)) (decide (b<0)) (digs a.natAbs) (digs b.natAbs) ha hb (wd_digs _) (wd_digs _)
 have hl:(digs b.natAbs).length≠0:=by rw [Ne,digs_len_zero]; omega
 rwa [dQ,dR,dE,if_pos ⟨canon_digs a,canon_digs b⟩,if_pos ⟨canon_digs a,canon_digs b,hl⟩,if_pos ⟨canon_digs a,canon_digs b⟩,if_neg hl,sg_digs,sg_digs] at this
theorem rmulZ2 (a b:Int)(ha:nw a<999999999999)(hb:nw b<999999999999):Says E 83 [pZ a,pZ b] (pZ (a*b)):=by
 have:=rmulI_says (decide (a<0)) (decide (b<0)) (digs a.natAbs) (digs b.natAbs) (by unfold nw at ha; omega) (by unfold nw at hb; omega) (wd_digs _) (wd_digs _)
 rwa [if_pos ⟨canon_digs a,canon_digs b⟩,sg_digs,sg_digs] at this
theorem rsignZ (a:Int)(ha:nw a<999999999999):Says E 78 [pZ a] (vZ a.sign):=by
 have:=rsign_says (decide (a<0)) (digs a.natAbs) (by unfold nw at ha; omega) (wd_digs _)
 rwa [if_pos (canon_digs a),sg_digs] at this
theorem rquoZ (a b:Int)(ha:nw a<99999999999)(hb:nw b<99999999999)(h0:b≠0):Says E 121 [pZ a,pZ b] (pZ (a / b)):=by
 refine says_of (xs:=[pZ (a / b)]) Tryz.func121 rfl Tryz.ntmps121 Tryz.results121 sM fun F hG hX0 hnt hdf P0=>?_
 obtain ⟨L,hX,hN⟩:=pro hnt hX0 hG
 refine exr (swb (c_bx (k:=2) (n:=2) pa2 rfl rfl (P0 _ rfl) L) t1 t0 ⟨rfl,rfl⟩ (swb (c_bx (k:=3) (n:=2) pa2 rfl rfl (P0 _ rfl) L) t1 t0 ⟨rfl,rfl⟩ (swb (c_al (k:=4) (n:=2) zv45 (.cons rfl (.cons rfl .nil)) rfl (P0 _ rfl) L) t0 t0 ⟨rfl,rfl⟩ (zn [(2,_),(3,_),(4,_)] [(2,_),(3,_),(4,_)] t3 t3 (exr (lp2 ag45 sz45 L rfl rfl (lp2 ag45 sz45 L rfl rfl (cK hG hX cl146 hN (rdivZ a b ha hb h0) L t2 (mV L rfl (sw (c_ex rfl L) t1 t0 (sw (c_ex rfl L) t1 t0 ?_)))))))))))
 refine sw (c_ex rfl L) t1 t0 (swb (c_al (k:=5) (n:=2) zv45 (.cons rfl (.cons rfl .nil)) rfl (P0 _ rfl) L) t0 t0 ⟨rfl,rfl⟩ (swb (c_al (k:=6) (n:=2) zv45 (.cons rfl (.cons rfl .nil)) rfl (P0 _ rfl) L) t0 t0 ⟨rfl,rfl⟩ (sb (c_sm sz45 rF pa2 rfl pu2) t2 t1 ?_)))
 refine sb (c_sm sz45 rF pa2 rfl pu2) t2 t1 ?_
 refine aV L rfl (zn [(4,_),(5,_)] [(4,_),(5,_)] t2 t2 (exr (lp2 ag45 sz45 L rfl rfl (sb (c_sm sz45 rF pa2 rfl pu2) t2 t1 ?_))))
 refine zn [(4,_)] [(4,_)] t1 t1 (ex_ret ?_)
 refine ⟨.inr rfl,ResVs.cast (.cons (.agg rfl rfl rfl ag45 sz45 (.cons (.cons .nil))) .nil) ?_⟩
 rfl
theorem rmodZ (a b:Int)(ha:nw a<99999999999)(hb:nw b<99999999999)(h0:b≠0):Says E 120 [pZ a,pZ b] (pZ (a % b)):=by
 refine says_of (xs:=[pZ (a % b)]) Tryz.func120 rfl Tryz.ntmps120 Tryz.results120 sM fun F hG hX0 hnt hdf P0=>?_
 obtain ⟨L,hX,hN⟩:=pro hnt hX0 hG
 refine exr (swb (c_bx (k:=2) (n:=2) pa2 rfl rfl (P0 _ rfl) L) t1 t0 ⟨rfl,rfl⟩ (swb (c_bx (k:=3) (n:=2) pa2 rfl rfl (P0 _ rfl) L) t1 t0 ⟨rfl,rfl⟩ (swb (c_al (k:=4) (n:=2) zv45 (.cons rfl (.cons rfl .nil)) rfl (P0 _ rfl) L) t0 t0 ⟨rfl,rfl⟩ (zn [(2,_),(3,_),(4,_)] [(2,_),(3,_),(4,_)] t3 t3 (exr (lp2 ag45 sz45 L rfl rfl (lp2 ag45 sz45 L rfl rfl (cK hG hX cl146 hN (rdivZ a b ha hb h0) L t2 (mV L rfl (sw (c_ex rfl L) t1 t0 (sw (c_ex rfl L) t1 t0 ?_)))))))))))
 refine sw (c_ex rfl L) t1 t0 (swb (c_al (k:=5) (n:=2) zv45 (.cons rfl (.cons rfl .nil)) rfl (P0 _ rfl) L) t0 t0 ⟨rfl,rfl⟩ (swb (c_al (k:=6) (n:=2) zv45 (.cons rfl (.cons rfl .nil)) rfl (P0 _ rfl) L) t0 t0 ⟨rfl,rfl⟩ (sb (c_sm sz45 rF pa2 rfl pu2) t2 t1 ?_)))
 refine sb (c_sm sz45 rF pa2 rfl pu2) t2 t1 ?_
 refine aV L rfl (zn [(4,_),(6,_)] [(4,_),(6,_)] t2 t2 (exr (lp2 ag45 sz45 L rfl rfl (sb (c_sm sz45 rF pa2 rfl pu2) t2 t1 ?_))))
 refine zn [(4,_)] [(4,_)] t1 t1 (ex_ret ?_)
 refine ⟨.inr rfl,ResVs.cast (.cons (.agg rfl rfl rfl ag45 sz45 (.cons (.cons .nil))) .nil) ?_⟩
 rfl
theorem rnatZ (x:Nat)(hx:nw (x:Int)<999999999999):Says E 118 [pZ (x:Int)] (.tup [vZ (if x<4611686018427387904 then (x:Int) else 0),bZ (decide (x<4611686018427387904))]):=by
 have:=rnative_says (decide ((x:Int)<0)) (digs (x:Int).natAbs) (by unfold nw at hx; omega) (wd_digs _) (digs_tr _)
 rw [sg_digs,val_digs] at this
 have e:(((x:Int).natAbs:Nat):Int)=(x:Int):=by omega
 rw [e] at this
 have e2:decide ((x:Int)<4611686018427387904)=decide (x<4611686018427387904):=dec_eq oM
 rw [e2] at this
 by_cases c:x<4611686018427387904
 ·rw [if_pos oM] at this; rwa [if_pos c]
 ·rw [if_neg oM] at this; rwa [if_neg c]
theorem rgcd_says (m n:Bool)(ws vs:List Int)(hl:ws.length<9999999999)(hl2:vs.length<9999999999)(h:Wd ws)(h2:Wd vs):Says E 80 [pI m ws,pI n vs] (pZ (if canon m ws=true∧canon n vs=true then (Int.gcd (sg m (val ws)) (sg n (val vs)):Int) else 0)):=by
 refine says_of (xs:=[pZ (if canon m ws=true∧canon n vs=true then (Int.gcd (sg m (val ws)) (sg n (val vs)):Int) else 0)]) Tryz.func80 rfl Tryz.ntmps80 Tryz.results80 sM fun F hG hX0 hnt hdf P0=>?_
 obtain ⟨L,hX,hN⟩:=pro hnt hX0 hG
 refine exr (swb (c_bx (k:=2) (n:=2) pa2 rfl rfl (P0 _ rfl) L) t1 t0 ⟨rfl,rfl⟩ (swb (c_bx (k:=3) (n:=2) pa2 rfl rfl (P0 _ rfl) L) t1 t0 ⟨rfl,rfl⟩ (swb (c_al (k:=4) (n:=2) zv45 (.cons rfl (.cons rfl .nil)) rfl (P0 _ rfl) L) t0 t0 ⟨rfl,rfl⟩ (zn [(2,_),(3,_),(4,_)] [(2,_),(3,_),(4,_)] t3 t3 (ex_seq ?_)))))
 refine exm (sl:=[(18,vb (decide (¬ (canon m ws=true∧canon n vs=true))))]) (sl0:=[(2,_),(3,_),(4,_)]) (hb:=[]) (hb0:=[(2,_),(3,_),(4,_)]) t3 t3 ?_ ?_
 ·by_cases hca:canon m ws=true
  ·refine lp2 ag45 sz45 L rfl rfl (cK hG hX cl77 hN (ris_says m ws oM) L t1 (sw (c_no L) t1 t0 (mV L rfl (swg (g:=14) rfl (by simp [hca]) (c_lp ag45 sz45 rF (by exact al2) rfl L) rfl t1 t1 ?_))))
   refine swg (g:=14) rfl (by simp [hca]) (c_c hG hX cl77 rfl hN (ris_says n vs oM) L) rfl t1 t0 ?_
   refine swg (g:=14) rfl (by simp [hca]) (c_no L) rfl t1 t0 ?_
   refine sw (c_pf (by simp [hca]) L) t2 t0 ?_
   exact seq_nil ⟨⟨ob rfl (by simp [hca]),rfl,rfl,rfl,trivial⟩,t3⟩
  ·refine lp2 ag45 sz45 L rfl rfl (cK hG hX cl77 hN (ris_says m ws oM) L t1 (sw (c_no L) t1 t0 (mV L rfl (swn (g:=14) rfl (by simp [hca]) L rfl ?_))))
   refine swn (g:=14) rfl (by simp [hca]) L rfl ?_
   refine swn (g:=14) rfl (by simp [hca]) L rfl ?_
   refine sw (c_pt (by simp [hca]) L) t2 t0 ?_
   exact seq_nil ⟨⟨ob rfl (by simp [hca]),rfl,rfl,rfl,trivial⟩,t3⟩
 refine ex_if rfl (fun hc=>?_) (fun hc=>?_)
 ·have hc:=dt hc
  refine exr (sw (c_pc (c_bp (vs:=[]) un45 zv45 (.cons rfl (.cons rfl .nil)) ((Places.cons sz4 (Places.cons sz43 Places.nil))).to rfl .nil (.cons (.cons .nil)) L) (.agg (.cons .same (.cons .nil .nil)))) t0 t0 (sb (c_sm sz45 rF pa2 rfl pu2) t2 t1 ?_))
  refine zn [(4,_)] [(4,_)] t1 t1 (ex_ret ?_)
  refine ⟨.inr rfl,ResVs.cast (.cons (.agg rfl rfl rfl ag45 sz45 (.cons (.cons .nil))) .nil) ?_⟩
  rw [if_neg hc,pZ_zero]; rfl
 ·have hc:=Decidable.not_not.1 (df hc)
  have ab:=rabs_says m ws oM h
  have ab2:=rabs_says n vs oM h2
  rw [if_pos hc.1] at ab
  rw [if_pos hc.2] at ab2
  have na:=nw_val (m:=m) h
  have nb:=nw_val (m:=n) h2
  rw [if_pos hc]
  obtain ⟨A,hA⟩:∃ A,A=sg m (val ws):=⟨_,rfl⟩
  obtain ⟨B,hB⟩:∃ B,B=sg n (val vs):=⟨_,rfl⟩
  rw [← hA] at ab na ⊢
  rw [← hB] at ab2 nb ⊢
  refine ex_skip (xq ?_)
  refine exd rF ?_
  refine lp2 ag45 sz45 L rfl rfl (cK hG hX cl117 hN ab L t1 (lp2 ag45 sz45 L rfl rfl (cK hG hX cl117 hN ab2 L t1 (swb (c_al (k:=5) (n:=2) zv45 (.cons rfl (.cons rfl .nil)) rfl (P0 _ rfl) L) t0 t0 ⟨rfl,rfl⟩ (swb (c_al (k:=6) (n:=2) zv45 (.cons rfl (.cons rfl .nil)) rfl (P0 _ rfl) L) t0 t0 ⟨rfl,rfl⟩ (sb (c_sm sz45 rF pa2 rfl pu2) t2 t1 ?_))))))
  refine sb (c_sm sz45 rF pa2 rfl pu2) t2 t1 ?_
  refine seq_nil ⟨aok rfl rfl,[(4,_),(5,_),(6,_)],[(4,_),(5,_),(6,_)],t3,t3,?_⟩
  refine ex_seq (ex_block ?_)
  refine exl (α:=(Nat×Nat)) (fun x=>[]) (fun x=>[(5,bI (x.1:Int)),(6,bI (x.2:Int))]) (fun x=>Nat.gcd x.1 x.2=Int.gcd A B∧x.1≤max A.natAbs B.natAbs∧x.2≤max A.natAbs B.natAbs) (fun x=>x.2) ((A.natAbs,B.natAbs)) (sl:=[(4,_),(5,_),(6,_)]) (hb:=[(4,_)]) ?_ t3 t3 ?_
  ·exact ⟨rfl,Nat.le_max_left _ _,Nat.le_max_right _ _⟩
  intro x hx
  obtain ⟨x,y⟩:=x
  obtain ⟨hg,hx,hy⟩:=hx
  simp only at hg hx hy
  dsimp only
  have hnx:nw (x:Int)<9999999999:=by
   rcases (show x≤A.natAbs∨x≤B.natAbs by omega) with c | c
   ·have:=nw_mono (a:=(x:Int)) (b:=A) (by simpa using c); omega
   ·have:=nw_mono (a:=(x:Int)) (b:=B) (by simpa using c); omega
  have hny:nw (y:Int)<9999999999:=by
   rcases (show y≤A.natAbs∨y≤B.natAbs by omega) with c | c
   ·have:=nw_mono (a:=(y:Int)) (b:=A) (by simpa using c); omega
   ·have:=nw_mono (a:=(y:Int)) (b:=B) (by simpa using c); omega
  refine ex_seq (exr (sw (c_fa un45 rfl sz43 dC rX L) t1 t1 ?_))
  refine sw (c_l1 ag43 rF rF L) t1 t1 ?_
  refine sw (c_ln un43 L) t1 t0 (sw (c_gt L) t2 t0 (zn [(4,_),(5,_),(6,_),(27,_)] [(4,_),(5,_),(6,_)] t4 t3 ?_))
  refine ex_if rfl (fun he=>?_) (fun he=>?_)
  ·have he:=dt he
   have hyp:0<y:=by
    by_cases c:y=0
    ·subst c; simp [digs_zero] at he
    ·omega
   refine ex_skip (xq ?_)
   refine ex_block (exr (lp2 ag45 sz45 L rfl rfl (cK hG hX cl118 hN (rnatZ x oM) L t1 (mV L rfl (sw (c_ex rfl L) t1 t0 (sw (c_ex rfl L) t1 t0 (aV L rfl (aV L rfl (zn [(4,_),(5,_),(6,_),(7,_),(8,_)] [(4,_),(5,_),(6,_)] t5 t3 (exr (lp2 ag45 sz45 L rfl rfl ?_)))))))))))
   refine cK hG hX cl118 hN (rnatZ y oM) L t1 (mV L rfl (sw (c_ex rfl L) t1 t0 (sw (c_ex rfl L) t1 t0 (aV L rfl (aV L rfl (zn [(4,_),(5,_),(6,_),(7,_),(8,_),(9,_),(10,_)] [(4,_),(5,_),(6,_)] t7 t3 (ex_seq ?_)))))))
   refine exm (sl:=[(41,vb (decide (x<4611686018427387904∧y<4611686018427387904)))]) (sl0:=[(4,_),(5,_),(6,_),(7,_),(9,_)]) (hb:=[]) (hb0:=[(4,_),(5,_),(6,_)]) t5 t3 ?_ ?_
   ·by_cases hs:x<4611686018427387904
    ·refine mV L rfl (mV L rfl (gV (g:=39) rfl (decide_eq_true hs) L rfl rfl (sw (c_pt (decide_eq_true hs) L) t2 t0 ?_)))
     exact seq_nil ⟨⟨ob rfl (dec_eq ⟨fun c=>⟨hs,c⟩,fun c=>c.2⟩),rfl,rfl,rfl,rfl,rfl,trivial⟩,t3⟩
    ·refine mV L rfl (mV L rfl (swn (g:=39) rfl (decide_eq_false hs) L rfl (sw (c_pf (decide_eq_false hs) L) t2 t0 ?_)))
     exact seq_nil ⟨⟨ob rfl (decide_eq_false (fun c=>hs c.1)).symm,rfl,rfl,rfl,rfl,rfl,trivial⟩,t3⟩
   refine ex_if rfl (fun hs=>?_) (fun hs=>?_)
   ·have hs:=dt hs
    rw [if_pos hs.1,if_pos hs.2]
    refine ex_seq (ex_block ?_)
    refine exl (α:=(Nat×Nat)) (fun z=>[(7,vi (z.1:Int)),(9,vi (z.2:Int))]) (fun z=>[]) (fun z=>Nat.gcd z.1 z.2=Int.gcd A B∧z.1<4611686018427387904∧z.2<4611686018427387904) (fun z=>z.2) ((x,y)) (sl:=[(4,_)]) (hb:=[(4,_)]) ?_ ⟨oR,oR,rfl,trivial⟩ t1 ?_
    ·exact ⟨hg,by simp only; omega,by simp only; omega⟩
    intro z hz
    obtain ⟨u,v⟩:=z
    obtain ⟨hg2,hu,hv⟩:=hz
    simp only at hg2 hu hv
    dsimp only
    refine ex_seq (exr (mV L rfl (sw (c_gt L) t2 t0 (zn [(4,_),(7,_),(9,_),(43,_)] [(4,_)] t4 t1 ?_))))
    refine ex_if rfl (fun hf=>?_) (fun hf=>?_)
    ·have hf:=dt hf
     have hlt:=Nat.mod_lt u (show 0<v by omega)
     refine ex_skip (xq ?_)
     refine ex_block (exd0 rF ?_)
     refine mV L rfl (mV L rfl (mV L rfl (sw (c_r L oM (show _=((u % v:Nat):Int) by rw [Int.tmod_eq_emod_of_nonneg oM]; rfl)) t2 t0 ?_)))
     refine aV L rfl (aV L rfl ?_)
     refine seq_nil ⟨aoks [⟨[9],[],[44],[]⟩,⟨[7],[],[45],[]⟩,⟨[9],[],[46],[]⟩,⟨[45,46],[],[47],[]⟩,⟨[44],[],[7],[]⟩,⟨[47],[],[9],[]⟩] rF rF dC,?_⟩
     exact ⟨(v,u % v),⟨by rw [← gcd_step]; exact hg2,hv,by simp only; omega⟩,(by simp only; omega),le_of ⟨oR,oR,rfl,trivial⟩ t1⟩
    ·have hf:=df hf
     have hv0:v=0:=by omega
     subst hv0
     rw [Nat.gcd_zero_right] at hg2
     subst hg2
     refine ex_exit (xq ?_)
     refine exr (mV L rfl (cK hG hX cl119 hN (rof_says (Int.gcd A B:Nat) oM oM) L t1 (sb (c_sm sz45 rF pa2 rfl pu2) t2 t1 ?_)))
     refine zn [(4,_)] [(4,_)] t1 t1 (ex_ret ?_)
     refine ⟨.inr rfl,ResVs.cast (.cons (.agg rfl rfl rfl ag45 sz45 (.cons (.cons .nil))) .nil) ?_⟩
     rfl
   ·have hs:=df hs
    have hml:=Nat.mod_lt x hyp
    refine ex_skip (xq ?_)
    refine exd0 rF ?_
    refine lp2 ag45 sz45 L rfl rfl (lp2 ag45 sz45 L rfl rfl (lp2 ag45 sz45 L rfl rfl (cK hG hX cl120 hN (rmodZ (x:Int) (y:Int) oM oM oM) L t2 (sb (c_sm sz45 rF pa2 rfl pu2) t2 t1 ?_))))
    refine sb (c_sm sz45 rF pa2 rfl pu2) t2 t1 ?_
    refine seq_nil ⟨aoks [⟨[6],[6],[50],[]⟩,⟨[5],[5],[51],[]⟩,⟨[6],[6],[52],[]⟩,⟨[51,52],[],[53],[]⟩,⟨[5,50],[5],[],[5]⟩,⟨[6,53],[6],[],[6]⟩] rF rF dC,?_⟩
    exact ⟨(y,x % y),⟨by rw [← gcd_step]; exact hg,hy,by simp only; omega⟩,(by simp only; omega),le_of t3 t3⟩
  ·have he:=df he
   have hy0:y=0:=by
    have:(digs (y:Int).natAbs).length=0:=by omega
    rw [digs_len_zero] at this; omega
   subst hy0
   rw [Nat.gcd_zero_right] at hg
   subst hg
   refine ex_exit (xq ?_)
   refine exr (lp2 ag45 sz45 L rfl rfl (sb (c_sm sz45 rF pa2 rfl pu2) t2 t1 ?_))
   refine zn [(4,_)] [(4,_)] t1 t1 (ex_ret ?_)
   refine ⟨.inr rfl,ResVs.cast (.cons (.agg rfl rfl rfl ag45 sz45 (.cons (.cons .nil))) .nil) ?_⟩
   rfl
theorem rgcdZ (a b:Int)(ha:nw a<9999999999)(hb:nw b<9999999999):Says E 80 [pZ a,pZ b] (pZ (Int.gcd a b:Int)):=by
 have:=rgcd_says (decide (a<0)) (decide (b<0)) (digs a.natAbs) (digs b.natAbs) ha hb (wd_digs _) (wd_digs _)
 rwa [if_pos ⟨canon_digs a,canon_digs b⟩,sg_digs,sg_digs] at this
end Go.Proofs.YtjagfionflbjbaaGreat.N
namespace Go.Proofs.YtjagfionflbjbaaGreat.NumA
theorem gcd_nw {a b:Int}(hb:b≠0):nw (Int.gcd a b:Int)≤nw b:=by
  have:Int.gcd a b≤b.natAbs:=Nat.le_of_dvd (by omega) (Nat.gcd_dvd_right _ _)
  exact nw_mono (by simpa using this)
end Go.Proofs.YtjagfionflbjbaaGreat.NumA
namespace Go.Proofs.YtjagfionflbjbaaGreat.NumA
theorem nw_one:nw 1=1:=by simp [nw,digs_pos,digs_zero]
end Go.Proofs.YtjagfionflbjbaaGreat.NumA
namespace Go.Proofs.YtjagfionflbjbaaGreat.NumA
end Go.Proofs.YtjagfionflbjbaaGreat.NumA
namespace Go.Proofs.YtjagfionflbjbaaGreat.NumA
open Go.Lib
end Go.Proofs.YtjagfionflbjbaaGreat.NumA
namespace Go.Proofs.YtjagfionflbjbaaGreat.NumA
open Go.Lib
end Go.Proofs.YtjagfionflbjbaaGreat.NumA
namespace Go.Proofs.YtjagfionflbjbaaGreat.NumA
def qw (a:Rat):Nat:=max (nw a.num) (nw a.den)
theorem nw_num_le (a:Rat):nw a.num≤qw a:=Nat.le_max_left _ _
theorem nw_den_le (a:Rat):nw (a.den:Int)≤qw a:=Nat.le_max_right _ _
def sgcd (n d:Int):Int:=if d<0 then -(Int.gcd n d:Int) else Int.gcd n d
theorem ovr_num {n d:Int}(h:d≠0):(Rat.divInt n d).num=n / sgcd n d:=by
  rw [Rat.num_divInt,sgcd,Int.gcd_comm]
  rcases Int.lt_trichotomy d 0 with h0 | h0 | h0
  · rw [if_pos h0,Int.sign_eq_neg_one_of_neg h0,Int.ediv_neg,Int.neg_one_mul]
    rw [Int.neg_ediv_of_dvd (Int.gcd_dvd_left ..)]
  · exact absurd h0 h
  · rw [if_neg (by omega),Int.sign_eq_one_of_pos h0,Int.one_mul]
theorem ovr_den {n d:Int}(h:d≠0):((Rat.divInt n d).den:Int)=d / sgcd n d:=by
  rw [Rat.den_divInt,if_neg h,sgcd,Int.gcd_comm,Int.natCast_ediv]
  rcases Int.lt_trichotomy d 0 with h0 | h0 | h0
  · rw [if_pos h0,Int.ediv_neg,show ((d.natAbs:Nat):Int) = -d by omega,Int.neg_ediv_of_dvd (Int.gcd_dvd_right ..)]
  · exact absurd h0 h
  · rw [if_neg (by omega),show ((d.natAbs:Nat):Int)=d by omega]
theorem qw_ovr {n d:Int}(h:d≠0):qw (Rat.divInt n d)≤max (nw n) (nw d):=by
  unfold qw
  rw [ovr_num h,ovr_den h]
  have h1:nw (n / sgcd n d)≤nw n:=nw_mono (Int.natAbs_ediv_le_natAbs ..)
  have h2:nw (d / sgcd n d)≤nw d:=nw_mono (Int.natAbs_ediv_le_natAbs ..)
  omega
theorem den_ne (a:Rat):(a.den:Int)≠0:=by have:=a.den_nz; omega
theorem q_self (a:Rat):Rat.divInt a.num a.den=a:=by rw [Rat.divInt_ofNat,Rat.mkRat_self]
theorem q_add (a b:Rat):Rat.divInt (a.num*b.den+b.num*a.den) (a.den*b.den)=a+b:=by
  have:=Rat.divInt_add_divInt a.num b.num (den_ne a) (den_ne b)
  rw [q_self,q_self] at this
  exact this.symm
theorem q_mul (a b:Rat):Rat.divInt (a.num*b.num) (a.den*b.den)=a*b:=by
  have:=Rat.divInt_mul_divInt a.num b.num (d₁:=a.den) (d₂:=b.den)
  rw [q_self,q_self] at this
  exact this.symm
theorem q_inv (a:Rat):Rat.divInt a.den a.num=a⁻¹:=(Rat.inv_def a).symm
theorem num_ne {a:Rat}:a.num≠0↔a≠0:=by rw [Ne,Rat.num_eq_zero]
theorem qw_add (a b:Rat):qw (a+b)≤qw a+qw b+1:=by
  rw [← q_add]
  have h1:=qw_ovr (n:=a.num*b.den+b.num*a.den) (d:=a.den*b.den) (Int.mul_ne_zero (den_ne a) (den_ne b))
  have h2:=nw_add (a.num*b.den) (b.num*a.den)
  have h3:=nw_mul a.num b.den
  have h4:=nw_mul b.num a.den
  have h5:=nw_mul a.den b.den
  have:=nw_num_le a; have:=nw_num_le b; have:=nw_den_le a; have:=nw_den_le b
  omega
theorem qw_mul (a b:Rat):qw (a*b)≤qw a+qw b:=by
  rw [← q_mul]
  have h1:=qw_ovr (n:=a.num*b.num) (d:=a.den*b.den) (Int.mul_ne_zero (den_ne a) (den_ne b))
  have h3:=nw_mul a.num b.num
  have h5:=nw_mul a.den b.den
  have:=nw_num_le a; have:=nw_num_le b; have:=nw_den_le a; have:=nw_den_le b
  omega
theorem qw_neg (a:Rat):qw (-a)=qw a:=by unfold qw; rw [Rat.neg_num,Rat.neg_den,nw_neg]
theorem qw_sub (a b:Rat):qw (a - b)≤qw a+qw b+1:=by rw [Rat.sub_eq_add_neg,← qw_neg b]; exact qw_add a (-b)
theorem qw_inv {a:Rat}(h:a≠0):qw a⁻¹≤qw a:=by
  rw [← q_inv]
  have h1:=qw_ovr (n:=a.den) (d:=a.num) (num_ne.2 h)
  unfold qw; unfold qw at h1; omega
theorem qw_div {a b:Rat}(h:b≠0):qw (a / b)≤qw a+qw b:=by
  rw [Rat.div_def]; have:=qw_mul a b⁻¹; have:=qw_inv h; omega
theorem qw_zero:qw 0=1:=by simp [qw,nw_one,nw_zero.2]
theorem qw_one:qw 1=1:=by simp [qw,nw_one]
def cmpQ (a b:Rat):Int:=if a<b then -1 else if b<a then 1 else 0
theorem q_cmp (a b:Rat):cmpI (a.num*b.den) (b.num*a.den)=cmpQ a b:=by
  unfold cmpI cmpQ
  simp only [Rat.lt_iff]
theorem q_sign (a:Rat):a.num.sign=cmpQ a 0:=by
  rw [← q_cmp]
  unfold cmpI
  simp only [Rat.zero_num,Rat.zero_den,Int.zero_mul,Int.natCast_one,Int.mul_one]
  rcases Int.lt_trichotomy a.num 0 with h | h | h
  · rw [if_pos h,Int.sign_eq_neg_one_of_neg h]
  · rw [h,if_neg (by omega),if_neg (by omega)]; rfl
  · rw [if_neg (by omega),if_pos h,Int.sign_eq_one_of_pos h]
theorem q_sign0 (a:Rat):a.num.sign=0↔a=0:=by rw [Int.sign_eq_zero_iff_zero,Rat.num_eq_zero]
theorem q_ext {a b:Rat}(h1:a.num=b.num)(h2:(a.den:Int)=b.den):a=b:=Rat.ext h1 (by omega)
theorem divInt_one' (n:Int):Rat.divInt n 1=(n:Rat):=by
  refine q_ext ?_ ?_
  · rw [ovr_num (by decide)]; simp [sgcd]
  · rw [ovr_den (by decide)]; simp [sgcd]
theorem sgcd_ne {n d:Int}(h:d≠0):sgcd n d≠0:=by
  have:Int.gcd n d≠0:=by rw [Ne,Int.gcd_eq_zero_iff]; exact fun hh=>h hh.2
  unfold sgcd; split <;> omega
theorem sgcd_nw {n d:Int}(h:d≠0):nw (sgcd n d)≤nw d:=by
  have:=gcd_nw (a:=n) h
  unfold sgcd; split
  · rwa [nw_neg]
  · exact this
theorem sgcd_one {n d:Int}(h:Int.gcd n d=1)(h0:¬ d<0):sgcd n d=1:=by rw [sgcd,if_neg h0,h]; rfl
end Go.Proofs.YtjagfionflbjbaaGreat.NumA
set_option maxRecDepth 100000
set_option maxHeartbeats 4000000
namespace Go.Proofs.YtjagfionflbjbaaGreat.N
open Go Go.Proofs.YtjagfionflbjbaaGreat.SH Go.Proofs.YtjagfionflbjbaaGreat.NumA
open Go.Proofs.Tryz renaming call100→cl100,call101→cl101,call102→cl102,call105→cl105,call108→cl108,call109→cl109,call110→cl110,call111→cl111,call112→cl112,call113→cl113,call114→cl114,call115→cl115,call116→cl116,call119→cl119,call121→cl121,call125→cl125,call128→cl128,call130→cl130,call134→cl134,call135→cl135,call137→cl137,call140→cl140,call148→cl148,call152→cl152,call49→cl49,call56→cl56,call62→cl62,call67→cl67,call76→cl76,call77→cl77,call78→cl78,call79→cl79,call80→cl80,call81→cl81,call82→cl82,call83→cl83,call88→cl88,isAgg119→ag119,isAgg43→ag43,isAgg45→ag45,isAgg47→ag47,isAgg4→ag4,sizeOf119→sz119,sizeOf43→sz43,sizeOf45→sz45,sizeOf47→sz47,sizeOf4→sz4,underlying43→un43,underlying45→un45,underlying47→un47,zeroValue45→zv45,zeroValue47→zv47
@[reducible] def pR (m:Bool)(ws:List Int)(n:Bool)(vs:List Int):Pure:=.agg [.a (.bool m),.sl ws.length (encW ws),.a (.bool n),.sl vs.length (encW vs)]
@[reducible] def pN (n d:Int):Pure:=pR (decide (n<0)) (digs n.natAbs) (decide (d<0)) (digs d.natAbs)
@[reducible] def pQ (a:Rat):Pure:=pN a.num a.den
theorem cN {a:Rat}{n d:Int}(h1:a.num=n)(h2:(a.den:Int)=d):pN n d=pQ a:=by subst h1 h2; rfl
theorem one_digs (n:Int):n=1↔(digs n.natAbs).length=1∧(digs n.natAbs).getD 0 0=1∧¬ n<0:=by
 constructor
 ·rintro rfl; refine ⟨nw_one,?_,by decide⟩
  have:val (digs 1)=1:=val_digs 1
  have h1:(digs 1).length=1:=nw_one
  show (digs 1).getD 0 0=1
  match digs 1,h1,this with
  | [w],_,h=>simpa [val] using h
 ·rintro ⟨h1,h2,h3⟩
  have h4:=val_digs n.natAbs
  match e:digs n.natAbs,h1 with
  | [w],_ =>
   rw [e] at h2 h4
   simp only [val,List.getD_cons_zero] at h2 h4
   omega
theorem one3 (n:Int):((digs n.natAbs).length≠1∧n≠1)∨((digs n.natAbs).length=1∧(digs n.natAbs).getD 0 0≠1∧n≠1)∨((digs n.natAbs).length=1∧(digs n.natAbs).getD 0 0=1∧(n=1↔¬ n<0)):=by
 have:=one_digs n
 by_cases h1:(digs n.natAbs).length=1
 ·by_cases h2:(digs n.natAbs).getD 0 0=1
  ·exact .inr (.inr ⟨h1,h2,by rw [this]; simp only [h1,h2,true_and]⟩)
  ·exact .inr (.inl ⟨h1,h2,fun h=>h2 (this.1 h).2.1⟩)
 ·exact .inl ⟨h1,fun h=>h1 (this.1 h).1⟩
theorem isOneZ (n:Int)(h:nw n<999999999999):Says E 113 [pZ n] (bZ (decide (n=1))):=by
 refine says_of (xs:=[bZ (decide (n=1))]) Tryz.func113 rfl Tryz.ntmps113 Tryz.results113 sM fun F hG hX0 hnt hdf P0=>?_
 obtain ⟨L,hX,hN⟩:=pro hnt hX0 hG
 unfold nw at h
 refine exr (swb (c_bx (k:=1) (n:=2) pa2 rfl rfl (P0 _ rfl) L) t1 t0 ⟨rfl,rfl⟩ (aV L rfl (zn [(1,_)] [(1,_)] t1 t1 ?_)))
 refine exm (sl:=[(2,vb (decide (n=1)))]) (sl0:=[]) (hb:=[]) (hb0:=[]) t0 t0 ?_ ?_
 ·rcases one3 n with ⟨h1,h2⟩ | ⟨h1,h2,h3⟩ | ⟨h1,h2,h3⟩
  ·refine sw (c_fa un45 rfl sz43 dC rX L) t1 t1 ?_
   refine sw (c_l1 ag43 rF rF L) t1 t1 ?_
   refine sw (c_ln un43 L) t1 t0 (sw (c_e L) t2 t0 (mV L rfl (swn (g:=7) rfl sO L rfl (swn (g:=7) rfl sO L rfl (swn (g:=7) rfl sO L rfl (swn (g:=7) rfl sO L rfl (swn (g:=7) rfl sO L rfl (sw (c_pf sO L) t2 t0 (mV L rfl (swn (g:=14) rfl rfl L rfl (swn (g:=14) rfl rfl L rfl ?_)))))))))))
   refine swn (g:=14) rfl rfl L rfl (sw (c_pf rfl L) t2 t0 (aV L rfl ?_))
   exact seq_nil ⟨⟨ob rfl (by simp [h2]),trivial⟩,trivial⟩
  ·refine sw (c_fa un45 rfl sz43 dC rX L) t1 t1 ?_
   refine sw (c_l1 ag43 rF rF L) t1 t1 ?_
   refine sw (c_ln un43 L) t1 t0 (sw (c_e L) t2 t0 (mV L rfl (swg (g:=7) rfl sO (c_fa un45 rfl sz43 dC rX L) rfl t1 t1 ?_)))
   refine swg (g:=7) rfl sO (c_l1 ag43 rF rF L) rfl t1 t1 ?_
   refine swg (g:=7) rfl sO (ixJ un43 sz119 (j:=0) rfl oM sM L) rfl t2 t0 ?_
   refine swg (g:=7) rfl sO (c_li ag119 (by first | exact getW oM | rfl) L) rfl t1 t0 ?_
   refine swg (g:=7) rfl sO (c_e L) rfl t2 t0 (sw (c_pt sO L) t2 t0 (mV L rfl (swn (g:=14) rfl (by simpa using h2) L rfl ?_)))
   refine swn (g:=14) rfl (by simpa using h2) L rfl ?_
   refine swn (g:=14) rfl (by simpa using h2) L rfl ?_
   refine sw (c_pf (by simpa using h2) L) t2 t0 ?_
   refine aV L rfl ?_
   exact seq_nil ⟨⟨ob rfl (by simp [h3]),trivial⟩,trivial⟩
  ·refine sw (c_fa un45 rfl sz43 dC rX L) t1 t1 ?_
   refine sw (c_l1 ag43 rF rF L) t1 t1 ?_
   refine sw (c_ln un43 L) t1 t0 (sw (c_e L) t2 t0 (mV L rfl (swg (g:=7) rfl sO (c_fa un45 rfl sz43 dC rX L) rfl t1 t1 ?_)))
   refine swg (g:=7) rfl sO (c_l1 ag43 rF rF L) rfl t1 t1 ?_
   refine swg (g:=7) rfl sO (ixJ un43 sz119 (j:=0) rfl oM sM L) rfl t2 t0 ?_
   refine swg (g:=7) rfl sO (c_li ag119 (by first | exact getW oM | rfl) L) rfl t1 t0 ?_
   refine swg (g:=7) rfl sO (c_e L) rfl t2 t0 (sw (c_pt sO L) t2 t0 (mV L rfl (swg (g:=14) rfl (by simpa using h2) (c_fa un45 rfl sz4 dC rX L) rfl t1 t1 ?_)))
   refine swg (g:=14) rfl (by simpa using h2) (c_l1 ag4 rF rF L) rfl t1 t1 ?_
   refine swg (g:=14) rfl (by simpa using h2) (c_no L) rfl t1 t0 ?_
   refine sw (c_pt (by simpa using h2) L) t2 t0 ?_
   refine aV L rfl ?_
   exact seq_nil ⟨⟨ob rfl (by rw [dec_eq h3]; exact (decide_not ..).symm),trivial⟩,trivial⟩
 refine ex_ret ?_
 refine ⟨.inr rfl,ResVs.cast (.cons (.tmp rfl) .nil) ?_⟩
 rfl
theorem one_says  : Says E 128 [] (pZ 1):=by
 refine says_of (xs:=[pZ 1]) Tryz.func128 rfl Tryz.ntmps128 Tryz.results128 sM fun F hG hX0 hnt hdf P0=>?_
 obtain ⟨L,hX,hN⟩:=pro hnt hX0 hG
 refine exr (swb (c_al (k:=0) (n:=2) zv45 (.cons rfl (.cons rfl .nil)) rfl (P0 _ rfl) L) t0 t0 ⟨rfl,rfl⟩ (zn [(0,_)] [(0,_)] t1 t1 (exr (cK hG hX cl101 hN (of_says 1 dC dC) L t1 (sb (c_sm sz45 rF pa2 rfl pu2) t2 t1 ?_)))))
 refine zn [(0,_)] [(0,_)] t1 t1 (ex_ret ?_)
 refine ⟨.inr rfl,ResVs.cast (.cons (.agg rfl rfl rfl ag45 sz45 (.cons (.cons .nil))) .nil) ?_⟩
 rfl
theorem wholeZ (a b:Int)(ha:nw a<99999999999)(hb:nw b<99999999999)(h0:b≠0):Says E 137 [pZ a,pZ b] (pZ (a / b)):=by
 refine says_of (xs:=[pZ (a / b)]) Tryz.func137 rfl Tryz.ntmps137 Tryz.results137 sM fun F hG hX0 hnt hdf P0=>?_
 obtain ⟨L,hX,hN⟩:=pro hnt hX0 hG
 refine exr (swb (c_bx (k:=2) (n:=2) pa2 rfl rfl (P0 _ rfl) L) t1 t0 ⟨rfl,rfl⟩ (swb (c_bx (k:=3) (n:=2) pa2 rfl rfl (P0 _ rfl) L) t1 t0 ⟨rfl,rfl⟩ (swb (c_al (k:=4) (n:=2) zv45 (.cons rfl (.cons rfl .nil)) rfl (P0 _ rfl) L) t0 t0 ⟨rfl,rfl⟩ (zn [(2,_),(3,_),(4,_)] [(2,_),(3,_),(4,_)] t3 t3 (exr (lp2 ag45 sz45 L rfl rfl (lp2 ag45 sz45 L rfl rfl (cK hG hX cl152 hN (divZ a b oM oM h0) L t2 (mV L rfl (sw (c_ex rfl L) t1 t0 (sw (c_ex rfl L) t1 t0 ?_)))))))))))
 refine sw (c_ex rfl L) t1 t0 (swb (c_al (k:=5) (n:=2) zv45 (.cons rfl (.cons rfl .nil)) rfl (P0 _ rfl) L) t0 t0 ⟨rfl,rfl⟩ (swb (c_al (k:=6) (n:=2) zv45 (.cons rfl (.cons rfl .nil)) rfl (P0 _ rfl) L) t0 t0 ⟨rfl,rfl⟩ (sb (c_sm sz45 rF pa2 rfl pu2) t2 t1 ?_)))
 refine sb (c_sm sz45 rF pa2 rfl pu2) t2 t1 ?_
 refine aV L rfl (zn [(4,_),(5,_)] [(4,_),(5,_)] t2 t2 (exr (lp2 ag45 sz45 L rfl rfl (sb (c_sm sz45 rF pa2 rfl pu2) t2 t1 ?_))))
 refine zn [(4,_)] [(4,_)] t1 t1 (ex_ret ?_)
 refine ⟨.inr rfl,ResVs.cast (.cons (.agg rfl rfl rfl ag45 sz45 (.cons (.cons .nil))) .nil) ?_⟩
 rfl
theorem sign3 (a:Int):a.sign = -1∧a<0∨a.sign=0∧a=0∨a.sign=1∧0<a:=by
 rcases Int.lt_trichotomy a 0 with h | h | h
 ·exact .inl ⟨Int.sign_eq_neg_one_of_neg h,h⟩
 ·exact .inr (.inl ⟨by rw [h]; rfl,h⟩)
 ·exact .inr (.inr ⟨Int.sign_eq_one_of_pos h,h⟩)
theorem gz {n d:Int}(h0:d≠0):(Int.gcd n d:Int)≠0:=by
 intro h; exact h0 (Int.gcd_eq_zero_iff.1 (show Int.gcd n d=0 by omega)).2
theorem gn {n d:Int}{k:Nat}(h0:d≠0)(hd:nw d<k):nw (Int.gcd n d:Int)<k:=Nat.lt_of_le_of_lt (gcd_nw h0) hd
theorem gs {n d:Int}(h0:d≠0):¬ (Int.gcd n d:Int).sign=0:=by rw [Int.sign_eq_zero_iff_zero]; exact gz h0
theorem sg0 {d:Int}:(d.sign<0)=(d<0):=by
 rcases sign3 d with h | h | h <;> (rw [h.1]; simp <;> omega)
theorem sgn {n d:Int}(h:d<0):sgcd n d = -(Int.gcd n d:Int):=by rw [sgcd,if_pos h]
theorem sgp {n d:Int}(h:¬ d<0):sgcd n d=Int.gcd n d:=by rw [sgcd,if_neg h]
theorem overZ (n d:Int)(h0:d≠0)(hn:nw n<90000000000)(hd:nw d<90000000000):Says E 110 [pZ n,pZ d] (pQ (Rat.divInt n d)):=by
 refine says_of (xs:=[pQ (Rat.divInt n d)]) Tryz.func110 rfl Tryz.ntmps110 Tryz.results110 sM fun F hG hX0 hnt hdf P0=>?_
 obtain ⟨L,hX,hN⟩:=pro hnt hX0 hG
 have hg:=gn (n:=n) h0 hd
 have hs:=sgcd_ne (n:=n) h0
 have hw:=sgcd_nw (n:=n) h0
 refine exr (swb (c_bx (k:=2) (n:=2) pa2 rfl rfl (P0 _ rfl) L) t1 t0 ⟨rfl,rfl⟩ (swb (c_bx (k:=3) (n:=2) pa2 rfl rfl (P0 _ rfl) L) t1 t0 ⟨rfl,rfl⟩ (swb (c_al (k:=4) (n:=4) zv47 (.cons rfl (.cons rfl (.cons rfl (.cons rfl .nil)))) rfl (P0 _ rfl) L) t0 t0 ⟨rfl,rfl⟩ (zn [(2,_),(3,_),(4,_)] [(2,_),(3,_),(4,_)] t3 t3 (ex_seq (exr (lp2 ag45 sz45 L rfl rfl (cK hG hX cl113 hN (isOneZ d oM) L t1 (zn [(2,_),(3,_),(4,_),(7,_)] [(2,_),(3,_),(4,_)] t4 t3 ?_)))))))))
 refine ex_if rfl (fun h1=>?_) (fun h1=>?_)
 ·have h1:=dt h1
  refine exr (lp2 ag45 sz45 L rfl rfl (lp2 ag45 sz45 L rfl rfl (sw (c_bp (vs:=[_,_]) un47 zv47 (.cons rfl (.cons rfl (.cons rfl (.cons rfl .nil)))) ((Places.cons sz45 (Places.cons sz45 Places.nil))).to rfl (.cons rfl pa2 rfl pu2 (.cons rfl pa2 rfl (.skip (.skip pu2)) .nil)) (.cons (.cons (.cons (.cons .nil)))) L) t2 t0 (sb (c_sm sz47 rF pa4 rfl pu4) t2 t1 ?_))))
  refine zn [(4,_)] [(4,_)] t1 t1 (ex_ret ?_)
  refine ⟨.inr rfl,ResVs.cast (.cons (.agg rfl rfl rfl ag47 sz47 (.cons (.cons (.cons (.cons .nil))))) .nil) ?_⟩
  exact congrArg (· :: []) (cN (by rw [h1,divInt_one']; rfl) (by rw [h1,divInt_one']; rfl))
 ·refine ex_skip (xq ?_)
  refine exr (lp2 ag45 sz45 L rfl rfl (lp2 ag45 sz45 L rfl rfl (cK hG hX cl135 hN (gcdZ n d oM oM) L t2 (swb (c_al (k:=5) (n:=2) zv45 (.cons rfl (.cons rfl .nil)) rfl (P0 _ rfl) L) t0 t0 ⟨rfl,rfl⟩ (sb (c_sm sz45 rF pa2 rfl pu2) t2 t1 ?_)))))
  refine zn [(2,_),(3,_),(4,_),(5,_)] [(2,_),(3,_),(4,_),(5,_)] t4 t4 (ex_seq ?_)
  refine exm (sl:=[(20,vb (decide ((Int.gcd n d:Int)=1∧¬ d<0)))]) (sl0:=[(2,_),(3,_),(4,_),(5,_)]) (hb:=[]) (hb0:=[(2,_),(3,_),(4,_),(5,_)]) t4 t4 ?_ ?_
  ·by_cases hg1:(Int.gcd n d:Int)=1
   ·refine lp2 ag45 sz45 L rfl rfl (cK hG hX cl113 hN (isOneZ (Int.gcd n d:Int) oM) L t1 (mV L rfl (swg (g:=16) rfl (by simp [hg1]) (c_fa un45 rfl sz4 dC rX L) rfl t1 t1 ?_)))
    refine swg (g:=16) rfl (by simp [hg1]) (c_l1 ag4 rF rF L) rfl t1 t1 ?_
    refine swg (g:=16) rfl (by simp [hg1]) (c_no L) rfl t1 t0 ?_
    refine sw (c_pt (by simp [hg1]) L) t2 t0 ?_
    exact seq_nil ⟨⟨ob rfl (by simp only [hg1,true_and]; exact (decide_not ..).symm),rfl,rfl,rfl,rfl,trivial⟩,t4⟩
   ·refine lp2 ag45 sz45 L rfl rfl (cK hG hX cl113 hN (isOneZ (Int.gcd n d:Int) oM) L t1 (mV L rfl (swn (g:=16) rfl (by simp [hg1]) L rfl ?_)))
    refine swn (g:=16) rfl (by simp [hg1]) L rfl ?_
    refine swn (g:=16) rfl (by simp [hg1]) L rfl ?_
    refine sw (c_pf (by simp [hg1]) L) t2 t0 ?_
    exact seq_nil ⟨⟨ob rfl (by simp [hg1]),rfl,rfl,rfl,rfl,trivial⟩,t4⟩
  refine ex_if rfl (fun h2=>?_) (fun h2=>?_)
  ·have h2:=dt h2
   have hh:=sgcd_one (n:=n) (d:=d) oM h2.2
   refine exr (lp2 ag45 sz45 L rfl rfl (lp2 ag45 sz45 L rfl rfl (sw (c_bp (vs:=[_,_]) un47 zv47 (.cons rfl (.cons rfl (.cons rfl (.cons rfl .nil)))) ((Places.cons sz45 (Places.cons sz45 Places.nil))).to rfl (.cons rfl pa2 rfl pu2 (.cons rfl pa2 rfl (.skip (.skip pu2)) .nil)) (.cons (.cons (.cons (.cons .nil)))) L) t2 t0 (sb (c_sm sz47 rF pa4 rfl pu4) t2 t1 ?_))))
   refine zn [(4,_)] [(4,_)] t1 t1 (ex_ret ?_)
   refine ⟨.inr rfl,ResVs.cast (.cons (.agg rfl rfl rfl ag47 sz47 (.cons (.cons (.cons (.cons .nil))))) .nil) ?_⟩
   exact congrArg (· :: []) (cN (by rw [ovr_num h0,hh,Int.ediv_one]) (by rw [ovr_den h0,hh,Int.ediv_one]))
  ·refine ex_skip (xq ?_)
   refine ex_seq (exr (lp2 ag45 sz45 L rfl rfl (cK hG hX cl134 hN (signZ (Int.gcd n d:Int) oM) L t1 (sw (c_e L) t2 t0 (zn [(2,_),(3,_),(4,_),(5,_),(26,_)] [(2,_),(3,_),(4,_),(5,_)] t5 t4 ?_)))))
   refine ex_if rfl (fun h3=>?_) (fun h3=>?_)
   ·exact absurd (dt h3) (gs h0)
   ·refine ex_skip (xq ?_)
    refine ex_seq (exr (lp2 ag45 sz45 L rfl rfl (cK hG hX cl134 hN (signZ d oM) L t1 (sw (c_ls L) t2 t0 (zn [(2,_),(3,_),(4,_),(5,_),(30,_)] [(2,_),(3,_),(4,_),(5,_)] t5 t4 ?_)))))
    refine ex_if rfl (fun h4=>?_) (fun h4=>?_)
    ·have h4:=dt h4
     rw [sg0] at h4
     rw [sgn h4] at hs hw
     refine exr0 (lp2 ag45 sz45 L rfl rfl (cK hG hX cl102 hN (negZ (Int.gcd n d:Int) oM) L t1 (sb (c_sm sz45 rF pa2 rfl pu2) t2 t1 ?_)))
     refine seq_nil (exd rF ?_)
     refine lp2 ag45 sz45 L rfl rfl (lp2 ag45 sz45 L rfl rfl (cK hG hX cl137 hN (wholeZ n (-(Int.gcd n d:Int)) oM oM hs) L t2 (lp2 ag45 sz45 L rfl rfl (lp2 ag45 sz45 L rfl rfl (cK hG hX cl137 hN (wholeZ d (-(Int.gcd n d:Int)) oM oM hs) L t2 (sw (c_bp (vs:=[_,_]) un47 zv47 (.cons rfl (.cons rfl (.cons rfl (.cons rfl .nil)))) ((Places.cons sz45 (Places.cons sz45 Places.nil))).to rfl (.cons rfl pa2 rfl pu2 (.cons rfl pa2 rfl (.skip (.skip pu2)) .nil)) (.cons (.cons (.cons (.cons .nil)))) L) t2 t0 (sb (c_sm sz47 rF pa4 rfl pu4) t2 t1 ?_)))))))
     refine seq_nil ⟨aoks [⟨[2],[2],[33],[]⟩,⟨[5],[5],[34],[]⟩,⟨[33,34],[],[35],[]⟩,⟨[3],[3],[36],[]⟩,⟨[5],[5],[37],[]⟩,⟨[36,37],[],[38],[]⟩,⟨[35,38],[],[39],[]⟩,⟨[4,39],[4],[],[4]⟩] rF rF dC,[(4,_)],[(4,_)],t1,t1,?_⟩
     refine ex_ret ?_
     refine ⟨.inr rfl,ResVs.cast (.cons (.agg rfl rfl rfl ag47 sz47 (.cons (.cons (.cons (.cons .nil))))) .nil) ?_⟩
     exact congrArg (· :: []) (cN (by rw [ovr_num h0,sgn h4]) (by rw [ovr_den h0,sgn h4]))
    ·have h4:=df h4
     rw [sg0] at h4
     rw [sgp h4] at hs hw
     refine ex_skip (xq ?_)
     refine exd rF ?_
     refine lp2 ag45 sz45 L rfl rfl (lp2 ag45 sz45 L rfl rfl (cK hG hX cl137 hN (wholeZ n (Int.gcd n d:Int) oM oM hs) L t2 (lp2 ag45 sz45 L rfl rfl (lp2 ag45 sz45 L rfl rfl (cK hG hX cl137 hN (wholeZ d (Int.gcd n d:Int) oM oM hs) L t2 (sw (c_bp (vs:=[_,_]) un47 zv47 (.cons rfl (.cons rfl (.cons rfl (.cons rfl .nil)))) ((Places.cons sz45 (Places.cons sz45 Places.nil))).to rfl (.cons rfl pa2 rfl pu2 (.cons rfl pa2 rfl (.skip (.skip pu2)) .nil)) (.cons (.cons (.cons (.cons .nil)))) L) t2 t0 (sb (c_sm sz47 rF pa4 rfl pu4) t2 t1 ?_)))))))
     refine seq_nil ⟨aoks [⟨[2],[2],[33],[]⟩,⟨[5],[5],[34],[]⟩,⟨[33,34],[],[35],[]⟩,⟨[3],[3],[36],[]⟩,⟨[5],[5],[37],[]⟩,⟨[36,37],[],[38],[]⟩,⟨[35,38],[],[39],[]⟩,⟨[4,39],[4],[],[4]⟩] rF rF dC,[(4,_)],[(4,_)],t1,t1,?_⟩
     refine ex_ret ?_
     refine ⟨.inr rfl,ResVs.cast (.cons (.agg rfl rfl rfl ag47 sz47 (.cons (.cons (.cons (.cons .nil))))) .nil) ?_⟩
     exact congrArg (· :: []) (cN (by rw [ovr_num h0,sgp h4]) (by rw [ovr_den h0,sgp h4]))
theorem nand2 {a b:Prop}(h:¬ (a∧b)):¬ a∨(a∧¬ b):=by
 by_cases ha:a
 ·exact .inr ⟨ha,fun hb=>h ⟨ha,hb⟩⟩
 ·exact .inl ha
theorem sgt {d:Int}:0<d.sign↔0<d:=by
 rcases sign3 d with h | h | h <;> (rw [h.1]; simp <;> omega)
theorem cmp0 {a b:Int}:cmpI a b=0↔a=b:=by unfold cmpI; repeat' split <;> omega
theorem gn1 (a:Int){b:Int}(h:0<b)(hb:nw b<1000000000):nw (Int.gcd a b:Int)<999999999999:=Nat.lt_of_lt_of_le (gn (Int.ne_of_gt h) hb) dC
theorem qneg_says (a:Rat)(ha:qw a<1000000000):Says E 56 [pQ a] (pQ (-a)):=by
 refine says_of (xs:=[pQ (-a)]) Tryz.func56 rfl Tryz.ntmps56 Tryz.results56 sM fun F hG hX0 hnt hdf P0=>?_
 obtain ⟨L,hX,hN⟩:=pro hnt hX0 hG
 have h1:=nw_num_le a
 refine exr (swb (c_bx (k:=1) (n:=4) pa4 rfl rfl (P0 _ rfl) L) t1 t0 ⟨rfl,rfl⟩ (swb (c_al (k:=2) (n:=4) zv47 (.cons rfl (.cons rfl (.cons rfl (.cons rfl .nil)))) rfl (P0 _ rfl) L) t0 t0 ⟨rfl,rfl⟩ (zn [(1,_),(2,_)] [(1,_),(2,_)] t2 t2 (exd rF ?_))))
 refine sw (c_fa un47 rfl sz45 dC rX L) t1 t1 ?_
 refine lp2 ag45 sz45 L rfl rfl (cK hG hX cl102 hN (negZ a.num oM) L t1 (sw (c_fa un47 rfl sz45 dC rX L) t1 t1 ?_))
 refine lp2 ag45 sz45 L rfl rfl (sw (c_bp (vs:=[_,_]) un47 zv47 (.cons rfl (.cons rfl (.cons rfl (.cons rfl .nil)))) ((Places.cons sz45 (Places.cons sz45 Places.nil))).to rfl (.cons rfl pa2 rfl pu2 (.cons rfl pa2 rfl (.skip (.skip pu2)) .nil)) (.cons (.cons (.cons (.cons .nil)))) L) t2 t0 (sb (c_sm sz47 rF pa4 rfl pu4) t2 t1 ?_))
 refine seq_nil ⟨aoks [⟨[1],[1],[3],[]⟩,⟨[3],[1],[4],[]⟩,⟨[4],[],[5],[]⟩,⟨[1],[1],[6],[]⟩,⟨[6],[1],[7],[]⟩,⟨[5,7],[],[8],[]⟩,⟨[2,8],[2],[],[2]⟩] rF rF dC,[(2,_)],[(2,_)],t1,t1,?_⟩
 refine ex_ret ?_
 refine ⟨.inr rfl,ResVs.cast (.cons (.agg rfl rfl rfl ag47 sz47 (.cons (.cons (.cons (.cons .nil))))) .nil) ?_⟩
 exact congrArg (· :: []) (cN rfl rfl)
theorem qwhole_says (n:Int):Says E 100 [pZ n] (pQ (n:Rat)):=by
 refine says_of (xs:=[pQ (n:Rat)]) Tryz.func100 rfl Tryz.ntmps100 Tryz.results100 sM fun F hG hX0 hnt hdf P0=>?_
 obtain ⟨L,hX,hN⟩:=pro hnt hX0 hG
 refine exr (swb (c_bx (k:=1) (n:=2) pa2 rfl rfl (P0 _ rfl) L) t1 t0 ⟨rfl,rfl⟩ (swb (c_al (k:=2) (n:=4) zv47 (.cons rfl (.cons rfl (.cons rfl (.cons rfl .nil)))) rfl (P0 _ rfl) L) t0 t0 ⟨rfl,rfl⟩ (zn [(1,_),(2,_)] [(1,_),(2,_)] t2 t2 (exd rF ?_))))
 refine lp2 ag45 sz45 L rfl rfl (cK hG hX cl128 hN one_says L t0 (sw (c_bp (vs:=[_,_]) un47 zv47 (.cons rfl (.cons rfl (.cons rfl (.cons rfl .nil)))) ((Places.cons sz45 (Places.cons sz45 Places.nil))).to rfl (.cons rfl pa2 rfl pu2 (.cons rfl pa2 rfl (.skip (.skip pu2)) .nil)) (.cons (.cons (.cons (.cons .nil)))) L) t2 t0 (sb (c_sm sz47 rF pa4 rfl pu4) t2 t1 ?_)))
 refine seq_nil ⟨aoks [⟨[1],[1],[3],[]⟩,⟨[],[],[4],[]⟩,⟨[3,4],[],[5],[]⟩,⟨[2,5],[2],[],[2]⟩] rF rF dC,[(2,_)],[(2,_)],t1,t1,?_⟩
 refine ex_ret ?_
 refine ⟨.inr rfl,ResVs.cast (.cons (.agg rfl rfl rfl ag47 sz47 (.cons (.cons (.cons (.cons .nil))))) .nil) ?_⟩
 exact congrArg (· :: []) (cN rfl rfl)
theorem qsign_says (a:Rat)(ha:qw a<1000000000):Says E 108 [pQ a] (vZ (cmpQ a 0)):=by
 refine says_of (xs:=[vZ (cmpQ a 0)]) Tryz.func108 rfl Tryz.ntmps108 Tryz.results108 sM fun F hG hX0 hnt hdf P0=>?_
 obtain ⟨L,hX,hN⟩:=pro hnt hX0 hG
 have h1:=nw_num_le a
 refine exr (swb (c_bx (k:=1) (n:=4) pa4 rfl rfl (P0 _ rfl) L) t1 t0 ⟨rfl,rfl⟩ (aV L rfl (zn [(1,_)] [(1,_)] t1 t1 (exr (sw (c_fa un47 rfl sz45 dC rX L) t1 t1 ?_)))))
 refine lp2 ag45 sz45 L rfl rfl (cK hG hX cl134 hN (signZ a.num oM) L t1 (aV L rfl (zn [(2,_)] [] t1 trivial (ex_ret ?_))))
 refine ⟨.inr rfl,ResVs.cast (.cons (.tmp rfl) .nil) ?_⟩
 rw [q_sign]
theorem qmul_says (a b:Rat)(ha:qw a<1000000000)(hb:qw b<1000000000):Says E 67 [pQ a,pQ b] (pQ (a*b)):=by
 refine says_of (xs:=[pQ (a*b)]) Tryz.func67 rfl Tryz.ntmps67 Tryz.results67 sM fun F hG hX0 hnt hdf P0=>?_
 obtain ⟨L,hX,hN⟩:=pro hnt hX0 hG
 have h1:=nw_num_le a
 have h2:=nw_num_le b
 have h3:=nw_den_le a
 have h4:=nw_den_le b
 have h5:=nw_mul a.num b.num
 have h6:=nw_mul a.den b.den
 refine exr (swb (c_bx (k:=2) (n:=4) pa4 rfl rfl (P0 _ rfl) L) t1 t0 ⟨rfl,rfl⟩ (swb (c_bx (k:=3) (n:=4) pa4 rfl rfl (P0 _ rfl) L) t1 t0 ⟨rfl,rfl⟩ (swb (c_al (k:=4) (n:=4) zv47 (.cons rfl (.cons rfl (.cons rfl (.cons rfl .nil)))) rfl (P0 _ rfl) L) t0 t0 ⟨rfl,rfl⟩ (zn [(2,_),(3,_),(4,_)] [(2,_),(3,_),(4,_)] t3 t3 (exd rF ?_)))))
 refine sw (c_fa un47 rfl sz45 dC rX L) t1 t1 ?_
 refine lp2 ag45 sz45 L rfl rfl (sw (c_fa un47 rfl sz45 dC rX L) t1 t1 ?_)
 refine lp2 ag45 sz45 L rfl rfl (cK hG hX cl111 hN (mulZ a.num b.num oM oM) L t2 (sw (c_fa un47 rfl sz45 dC rX L) t1 t1 ?_))
 refine lp2 ag45 sz45 L rfl rfl (sw (c_fa un47 rfl sz45 dC rX L) t1 t1 ?_)
 refine lp2 ag45 sz45 L rfl rfl (cK hG hX cl111 hN (mulZ a.den b.den oM oM) L t2 (cK hG hX cl110 hN (overZ (a.num*b.num) (a.den*b.den) (Int.mul_ne_zero (den_ne a) (den_ne b)) oM oM) L t2 (sb (c_sm sz47 rF pa4 rfl pu4) t2 t1 ?_)))
 refine seq_nil ⟨aoks [⟨[2],[2],[5],[]⟩,⟨[5],[2],[6],[]⟩,⟨[3],[3],[7],[]⟩,⟨[7],[3],[8],[]⟩,⟨[6,8],[],[9],[]⟩,⟨[2],[2],[10],[]⟩,⟨[10],[2],[11],[]⟩,⟨[3],[3],[12],[]⟩,⟨[12],[3],[13],[]⟩,⟨[11,13],[],[14],[]⟩,⟨[9,14],[],[15],[]⟩,⟨[4,15],[4],[],[4]⟩] rF rF dC,[(4,_)],[(4,_)],t1,t1,?_⟩
 refine ex_ret ?_
 refine ⟨.inr rfl,ResVs.cast (.cons (.agg rfl rfl rfl ag47 sz47 (.cons (.cons (.cons (.cons .nil))))) .nil) ?_⟩
 rw [q_mul]
theorem qadd_says (a b:Rat)(ha:qw a<1000000000)(hb:qw b<1000000000):Says E 112 [pQ a,pQ b] (pQ (a+b)):=by
 refine says_of (xs:=[pQ (a+b)]) Tryz.func112 rfl Tryz.ntmps112 Tryz.results112 sM fun F hG hX0 hnt hdf P0=>?_
 obtain ⟨L,hX,hN⟩:=pro hnt hX0 hG
 have h1:=nw_num_le a
 have h2:=nw_num_le b
 have h3:=nw_den_le a
 have h4:=nw_den_le b
 have h5:=nw_mul a.num b.den
 have h6:=nw_mul b.num a.den
 have h7:=nw_mul a.den b.den
 have h8:=nw_add (a.num*b.den) (b.num*a.den)
 refine exr (swb (c_bx (k:=2) (n:=4) pa4 rfl rfl (P0 _ rfl) L) t1 t0 ⟨rfl,rfl⟩ (swb (c_bx (k:=3) (n:=4) pa4 rfl rfl (P0 _ rfl) L) t1 t0 ⟨rfl,rfl⟩ (swb (c_al (k:=4) (n:=4) zv47 (.cons rfl (.cons rfl (.cons rfl (.cons rfl .nil)))) rfl (P0 _ rfl) L) t0 t0 ⟨rfl,rfl⟩ (zn [(2,_),(3,_),(4,_)] [(2,_),(3,_),(4,_)] t3 t3 (ex_seq ?_)))))
 refine exm (sl:=[(12,vb (decide ((a.den:Int)=1∧(b.den:Int)=1)))]) (sl0:=[(2,_),(3,_),(4,_)]) (hb:=[]) (hb0:=[(2,_),(3,_),(4,_)]) t3 t3 ?_ ?_
 ·by_cases hd:(a.den:Int)=1
  ·refine sw (c_fa un47 rfl sz45 dC rX L) t1 t1 ?_
   refine lp2 ag45 sz45 L rfl rfl (cK hG hX cl113 hN (isOneZ a.den oM) L t1 (mV L rfl (swg (g:=8) rfl (by simpa using hd) (c_fa un47 rfl sz45 dC rX L) rfl t1 t1 ?_)))
   refine swg (g:=8) rfl (by simpa using hd) (c_lp ag45 sz45 rF (by exact al2) rfl L) rfl t1 t1 ?_
   refine swg (g:=8) rfl (by simpa using hd) (c_c hG hX cl113 rfl hN (isOneZ b.den oM) L) rfl t1 t0 ?_
   refine sw (c_pt (by simpa using hd) L) t2 t0 ?_
   exact seq_nil ⟨⟨ob rfl (by simp only [hd,true_and]),rfl,rfl,rfl,trivial⟩,t3⟩
  ·refine sw (c_fa un47 rfl sz45 dC rX L) t1 t1 ?_
   refine lp2 ag45 sz45 L rfl rfl (cK hG hX cl113 hN (isOneZ a.den oM) L t1 (mV L rfl (swn (g:=8) rfl (by simpa using hd) L rfl ?_)))
   refine swn (g:=8) rfl (by simpa using hd) L rfl ?_
   refine swn (g:=8) rfl (by simpa using hd) L rfl ?_
   refine sw (c_pf (by simpa using hd) L) t2 t0 ?_
   exact seq_nil ⟨⟨ob rfl (by simp only [hd,false_and]; rfl),rfl,rfl,rfl,trivial⟩,t3⟩
 refine ex_if rfl (fun hc=>?_) (fun hc=>?_)
 ·have hc:=dt hc
  refine exr (sw (c_fa un47 rfl sz45 dC rX L) t1 t1 ?_)
  refine lp2 ag45 sz45 L rfl rfl (sw (c_fa un47 rfl sz45 dC rX L) t1 t1 ?_)
  refine lp2 ag45 sz45 L rfl rfl (cK hG hX cl140 hN (addZ a.num b.num oM oM) L t2 (cK hG hX cl100 hN (qwhole_says (a.num+b.num)) L t1 (sb (c_sm sz47 rF pa4 rfl pu4) t2 t1 ?_)))
  refine zn [(4,_)] [(4,_)] t1 t1 (ex_ret ?_)
  refine ⟨.inr rfl,ResVs.cast (.cons (.agg rfl rfl rfl ag47 sz47 (.cons (.cons (.cons (.cons .nil))))) .nil) ?_⟩
  rw [← q_add,hc.1,hc.2,Int.mul_one,Int.mul_one,Int.mul_one,divInt_one']
 ·refine ex_skip (xq ?_)
  refine exd rF ?_
  refine sw (c_fa un47 rfl sz45 dC rX L) t1 t1 ?_
  refine lp2 ag45 sz45 L rfl rfl (sw (c_fa un47 rfl sz45 dC rX L) t1 t1 ?_)
  refine lp2 ag45 sz45 L rfl rfl (cK hG hX cl111 hN (mulZ a.num b.den oM oM) L t2 (sw (c_fa un47 rfl sz45 dC rX L) t1 t1 ?_))
  refine lp2 ag45 sz45 L rfl rfl (sw (c_fa un47 rfl sz45 dC rX L) t1 t1 ?_)
  refine lp2 ag45 sz45 L rfl rfl (cK hG hX cl111 hN (mulZ b.num a.den oM oM) L t2 (cK hG hX cl140 hN (addZ (a.num*b.den) (b.num*a.den) oM oM) L t2 (sw (c_fa un47 rfl sz45 dC rX L) t1 t1 ?_)))
  refine lp2 ag45 sz45 L rfl rfl (sw (c_fa un47 rfl sz45 dC rX L) t1 t1 ?_)
  refine lp2 ag45 sz45 L rfl rfl (cK hG hX cl111 hN (mulZ a.den b.den oM oM) L t2 (cK hG hX cl110 hN (overZ (a.num*b.den+b.num*a.den) (a.den*b.den) (Int.mul_ne_zero (den_ne a) (den_ne b)) oM oM) L t2 (sb (c_sm sz47 rF pa4 rfl pu4) t2 t1 ?_)))
  refine seq_nil ⟨aoks [⟨[2],[2],[19],[]⟩,⟨[19],[2],[20],[]⟩,⟨[3],[3],[21],[]⟩,⟨[21],[3],[22],[]⟩,⟨[20,22],[],[23],[]⟩,⟨[3],[3],[24],[]⟩,⟨[24],[3],[25],[]⟩,⟨[2],[2],[26],[]⟩,⟨[26],[2],[27],[]⟩,⟨[25,27],[],[28],[]⟩,⟨[23,28],[],[29],[]⟩,⟨[2],[2],[30],[]⟩,⟨[30],[2],[31],[]⟩,⟨[3],[3],[32],[]⟩,⟨[32],[3],[33],[]⟩,⟨[31,33],[],[34],[]⟩,⟨[29,34],[],[35],[]⟩,⟨[4,35],[4],[],[4]⟩] rF rF dC,[(4,_)],[(4,_)],t1,t1,?_⟩
  refine ex_ret ?_
  refine ⟨.inr rfl,ResVs.cast (.cons (.agg rfl rfl rfl ag47 sz47 (.cons (.cons (.cons (.cons .nil))))) .nil) ?_⟩
  rw [q_add]
theorem qsub_says (a b:Rat)(ha:qw a<1000000000)(hb:qw b<1000000000):Says E 127 [pQ a,pQ b] (pQ (a - b)):=by
 refine says_of (xs:=[pQ (a - b)]) Tryz.func127 rfl Tryz.ntmps127 Tryz.results127 sM fun F hG hX0 hnt hdf P0=>?_
 obtain ⟨L,hX,hN⟩:=pro hnt hX0 hG
 refine exr (swb (c_bx (k:=2) (n:=4) pa4 rfl rfl (P0 _ rfl) L) t1 t0 ⟨rfl,rfl⟩ (swb (c_bx (k:=3) (n:=4) pa4 rfl rfl (P0 _ rfl) L) t1 t0 ⟨rfl,rfl⟩ (swb (c_al (k:=4) (n:=4) zv47 (.cons rfl (.cons rfl (.cons rfl (.cons rfl .nil)))) rfl (P0 _ rfl) L) t0 t0 ⟨rfl,rfl⟩ (zn [(2,_),(3,_),(4,_)] [(2,_),(3,_),(4,_)] t3 t3 (exd rF ?_)))))
 refine lp4 ag47 sz47 L rfl rfl (lp4 ag47 sz47 L rfl rfl (cK hG hX cl56 hN (qneg_says b hb) L t1 (cK hG hX cl112 hN (qadd_says a (-b) ha (by rw [qw_neg]; exact hb)) L t2 ?_)))
 refine sb (c_sm sz47 rF pa4 rfl pu4) t2 t1 ?_
 refine seq_nil ⟨aoks [⟨[2],[2],[5],[]⟩,⟨[3],[3],[6],[]⟩,⟨[6],[],[7],[]⟩,⟨[5,7],[],[8],[]⟩,⟨[4,8],[4],[],[4]⟩] rF rF dC,[(4,_)],[(4,_)],t1,t1,?_⟩
 refine ex_ret ?_
 refine ⟨.inr rfl,ResVs.cast (.cons (.agg rfl rfl rfl ag47 sz47 (.cons (.cons (.cons (.cons .nil))))) .nil) ?_⟩
 rw [← Rat.sub_eq_add_neg]
theorem qinv_says (a:Rat)(ha:qw a<1000000000)(h0:a≠0):Says E 109 [pQ a] (pQ a⁻¹):=by
 refine says_of (xs:=[pQ a⁻¹]) Tryz.func109 rfl Tryz.ntmps109 Tryz.results109 sM fun F hG hX0 hnt hdf P0=>?_
 obtain ⟨L,hX,hN⟩:=pro hnt hX0 hG
 have h1:=nw_num_le a
 have h3:=nw_den_le a
 refine exr (swb (c_bx (k:=1) (n:=4) pa4 rfl rfl (P0 _ rfl) L) t1 t0 ⟨rfl,rfl⟩ (swb (c_al (k:=2) (n:=4) zv47 (.cons rfl (.cons rfl (.cons rfl (.cons rfl .nil)))) rfl (P0 _ rfl) L) t0 t0 ⟨rfl,rfl⟩ (zn [(1,_),(2,_)] [(1,_),(2,_)] t2 t2 (exr (sw (c_fa un47 rfl sz45 dC rX L) t1 t1 ?_)))))
 refine lp2 ag45 sz45 L rfl rfl (sw (c_fa un47 rfl sz45 dC rX L) t1 t1 ?_)
 refine lp2 ag45 sz45 L rfl rfl (cK hG hX cl110 hN (overZ a.den a.num (num_ne.2 h0) oM oM) L t2 (sb (c_sm sz47 rF pa4 rfl pu4) t2 t1 ?_))
 refine zn [(2,_)] [(2,_)] t1 t1 (ex_ret ?_)
 refine ⟨.inr rfl,ResVs.cast (.cons (.agg rfl rfl rfl ag47 sz47 (.cons (.cons (.cons (.cons .nil))))) .nil) ?_⟩
 rw [q_inv]
theorem qdiv_says (a b:Rat)(ha:qw a<1000000000)(hb:qw b<1000000000)(h0:b≠0):Says E 66 [pQ a,pQ b] (.tup [pQ (a / b),vZ 0]):=by
 refine says_of (xs:=[pQ (a / b),vZ 0]) Tryz.func66 rfl Tryz.ntmps66 Tryz.results66 sM fun F hG hX0 hnt hdf P0=>?_
 obtain ⟨L,hX,hN⟩:=pro hnt hX0 hG
 have hi:=qw_inv h0
 refine exr (swb (c_bx (k:=2) (n:=4) pa4 rfl rfl (P0 _ rfl) L) t1 t0 ⟨rfl,rfl⟩ (swb (c_bx (k:=3) (n:=4) pa4 rfl rfl (P0 _ rfl) L) t1 t0 ⟨rfl,rfl⟩ (swb (c_al (k:=4) (n:=4) zv47 (.cons rfl (.cons rfl (.cons rfl (.cons rfl .nil)))) rfl (P0 _ rfl) L) t0 t0 ⟨rfl,rfl⟩ (aV L rfl (zn [(2,_),(3,_),(4,_)] [(2,_),(3,_),(4,_)] t3 t3 (ex_seq (exr (lp4 ag47 sz47 L rfl rfl (cK hG hX cl108 hN (qsign_says b hb) L t1 (sw (c_e L) t2 t0 (zn [(2,_),(3,_),(4,_),(8,_)] [(2,_),(3,_),(4,_)] t4 t3 ?_)))))))))))
 refine ex_if rfl (fun hc=>?_) (fun hc=>?_)
 ·have hc:=dt hc
  rw [← q_sign,q_sign0] at hc
  exact absurd hc h0
 ·refine ex_skip (xq ?_)
  refine exd rF ?_
  refine lp4 ag47 sz47 L rfl rfl (lp4 ag47 sz47 L rfl rfl (cK hG hX cl109 hN (qinv_says b hb h0) L t1 (cK hG hX cl67 hN (qmul_says a b⁻¹ ha oM) L t2 (sb (c_sm sz47 rF pa4 rfl pu4) t2 t1 ?_))))
  refine aV L rfl ?_
  refine seq_nil ⟨aoks [⟨[2],[2],[10],[]⟩,⟨[3],[3],[11],[]⟩,⟨[11],[],[12],[]⟩,⟨[10,12],[],[13],[]⟩,⟨[4,13],[4],[],[4]⟩,⟨[],[],[5],[]⟩] rF rF dC,[(4,_),(5,_)],[(4,_)],t2,t1,?_⟩
  refine ex_ret ?_
  refine ⟨.inr rfl,ResVs.cast (.cons (.agg rfl rfl rfl ag47 sz47 (.cons (.cons (.cons (.cons .nil))))) (.cons (.tmp rfl) .nil)) ?_⟩
  rw [← Rat.div_def]
theorem qcmp_says (a b:Rat)(ha:qw a<1000000000)(hb:qw b<1000000000):Says E 69 [pQ a,pQ b] (vZ (cmpQ a b)):=by
 refine says_of (xs:=[vZ (cmpQ a b)]) Tryz.func69 rfl Tryz.ntmps69 Tryz.results69 sM fun F hG hX0 hnt hdf P0=>?_
 obtain ⟨L,hX,hN⟩:=pro hnt hX0 hG
 have h1:=nw_num_le a
 have h2:=nw_num_le b
 have h3:=nw_den_le a
 have h4:=nw_den_le b
 have h5:=nw_mul a.num b.den
 have h6:=nw_mul b.num a.den
 refine exr (swb (c_bx (k:=2) (n:=4) pa4 rfl rfl (P0 _ rfl) L) t1 t0 ⟨rfl,rfl⟩ (swb (c_bx (k:=3) (n:=4) pa4 rfl rfl (P0 _ rfl) L) t1 t0 ⟨rfl,rfl⟩ (aV L rfl (zn [(2,_),(3,_)] [(2,_),(3,_)] t2 t2 (ex_seq ?_)))))
 refine exm (sl:=[(12,vb (decide ((a.den:Int)=1∧(b.den:Int)=1)))]) (sl0:=[(2,_),(3,_)]) (hb:=[]) (hb0:=[(2,_),(3,_)]) t2 t2 ?_ ?_
 ·by_cases hd:(a.den:Int)=1
  ·refine sw (c_fa un47 rfl sz45 dC rX L) t1 t1 ?_
   refine lp2 ag45 sz45 L rfl rfl (cK hG hX cl113 hN (isOneZ a.den oM) L t1 (mV L rfl (swg (g:=8) rfl (by simpa using hd) (c_fa un47 rfl sz45 dC rX L) rfl t1 t1 ?_)))
   refine swg (g:=8) rfl (by simpa using hd) (c_lp ag45 sz45 rF (by exact al2) rfl L) rfl t1 t1 ?_
   refine swg (g:=8) rfl (by simpa using hd) (c_c hG hX cl113 rfl hN (isOneZ b.den oM) L) rfl t1 t0 ?_
   refine sw (c_pt (by simpa using hd) L) t2 t0 ?_
   exact seq_nil ⟨⟨ob rfl (by simp only [hd,true_and]),rfl,rfl,trivial⟩,t2⟩
  ·refine sw (c_fa un47 rfl sz45 dC rX L) t1 t1 ?_
   refine lp2 ag45 sz45 L rfl rfl (cK hG hX cl113 hN (isOneZ a.den oM) L t1 (mV L rfl (swn (g:=8) rfl (by simpa using hd) L rfl ?_)))
   refine swn (g:=8) rfl (by simpa using hd) L rfl ?_
   refine swn (g:=8) rfl (by simpa using hd) L rfl ?_
   refine sw (c_pf (by simpa using hd) L) t2 t0 ?_
   exact seq_nil ⟨⟨ob rfl (by simp only [hd,false_and]; rfl),rfl,rfl,trivial⟩,t2⟩
 refine ex_if rfl (fun hc=>?_) (fun hc=>?_)
 ·have hc:=dt hc
  refine exr (sw (c_fa un47 rfl sz45 dC rX L) t1 t1 ?_)
  refine lp2 ag45 sz45 L rfl rfl (sw (c_fa un47 rfl sz45 dC rX L) t1 t1 ?_)
  refine lp2 ag45 sz45 L rfl rfl (cK hG hX cl114 hN (cmpZ a.num b.num oM oM) L t2 (aV L rfl (zn [(4,_)] [] t1 trivial (ex_ret ?_))))
  refine ⟨.inr rfl,ResVs.cast (.cons (.tmp rfl) .nil) ?_⟩
  rw [← q_cmp,hc.1,hc.2,Int.mul_one,Int.mul_one]
 ·refine ex_skip (xq ?_)
  refine exd rF ?_
  refine sw (c_fa un47 rfl sz45 dC rX L) t1 t1 ?_
  refine lp2 ag45 sz45 L rfl rfl (sw (c_fa un47 rfl sz45 dC rX L) t1 t1 ?_)
  refine lp2 ag45 sz45 L rfl rfl (cK hG hX cl111 hN (mulZ a.num b.den oM oM) L t2 (sw (c_fa un47 rfl sz45 dC rX L) t1 t1 ?_))
  refine lp2 ag45 sz45 L rfl rfl (sw (c_fa un47 rfl sz45 dC rX L) t1 t1 ?_)
  refine lp2 ag45 sz45 L rfl rfl (cK hG hX cl111 hN (mulZ b.num a.den oM oM) L t2 (cK hG hX cl114 hN (cmpZ (a.num*b.den) (b.num*a.den) oM oM) L t2 (aV L rfl ?_)))
  refine seq_nil ⟨aoks [⟨[2],[2],[18],[]⟩,⟨[18],[2],[19],[]⟩,⟨[3],[3],[20],[]⟩,⟨[20],[3],[21],[]⟩,⟨[19,21],[],[22],[]⟩,⟨[3],[3],[23],[]⟩,⟨[23],[3],[24],[]⟩,⟨[2],[2],[25],[]⟩,⟨[25],[2],[26],[]⟩,⟨[24,26],[],[27],[]⟩,⟨[22,27],[],[28],[]⟩,⟨[28],[],[4],[]⟩] rF rF dC,[(4,_)],[],t1,trivial,?_⟩
  refine ex_ret ?_
  refine ⟨.inr rfl,ResVs.cast (.cons (.tmp rfl) .nil) ?_⟩
  rw [q_cmp]
theorem qis_no (m n:Bool)(ws vs:List Int)(hl:ws.length<1000000000)(hl2:vs.length<1000000000)(hn:¬ (canon m ws=true∧canon n vs=true)):Says E 107 [pR m ws n vs] (bZ false):=by
 refine says_of (xs:=[bZ false]) Tryz.func107 rfl Tryz.ntmps107 Tryz.results107 sM fun F hG hX0 hnt hdf P0=>?_
 obtain ⟨L,hX,hN⟩:=pro hnt hX0 hG
 refine exr (swb (c_bx (k:=1) (n:=4) pa4 rfl rfl (P0 _ rfl) L) t1 t0 ⟨rfl,rfl⟩ (aV L rfl (zn [(1,_)] [(1,_)] t1 t1 ?_)))
 refine exm (sl:=[(2,vb false)]) (sl0:=[]) (hb:=[]) (hb0:=[]) t0 t0 ?_ ?_
 ·rcases nand2 hn with h1 | ⟨h1,h2⟩
  ·refine sw (c_fa un47 rfl sz45 dC rX L) t1 t1 ?_
   refine lp2 ag45 sz45 L rfl rfl (cK hG hX cl130 hN (is_says m ws oM) L t1 (mV L rfl (swn (g:=6) rfl (by simpa using h1) L rfl ?_)))
   refine swn (g:=6) rfl (by simpa using h1) L rfl ?_
   refine swn (g:=6) rfl (by simpa using h1) L rfl ?_
   refine sw (c_pf (by simpa using h1) L) t2 t0 ?_
   refine mV L rfl (swn (g:=11) rfl rfl L rfl (swn (g:=11) rfl rfl L rfl (swn (g:=11) rfl rfl L rfl (swn (g:=11) rfl rfl L rfl (sw (c_pf rfl L) t2 t0 (mV L rfl (swn (g:=17) rfl rfl L rfl (swn (g:=17) rfl rfl L rfl (swn (g:=17) rfl rfl L rfl (swn (g:=17) rfl rfl L rfl (swn (g:=17) rfl rfl L rfl ?_)))))))))))
   refine swn (g:=17) rfl rfl L rfl (swn (g:=17) rfl rfl L rfl (swn (g:=17) rfl rfl L rfl (sw (c_pf rfl L) t2 t0 (aV L rfl ?_))))
   exact seq_nil ⟨⟨ob rfl rfl,trivial⟩,trivial⟩
  ·refine sw (c_fa un47 rfl sz45 dC rX L) t1 t1 ?_
   refine lp2 ag45 sz45 L rfl rfl (cK hG hX cl130 hN (is_says m ws oM) L t1 (mV L rfl (swg (g:=6) rfl h1 (c_fa un47 rfl sz45 dC rX L) rfl t1 t1 ?_)))
   refine swg (g:=6) rfl h1 (c_lp ag45 sz45 rF (by exact al2) rfl L) rfl t1 t1 ?_
   refine swg (g:=6) rfl h1 (c_c hG hX cl130 rfl hN (is_says n vs oM) L) rfl t1 t0 (sw (c_pt h1 L) t2 t0 (mV L rfl (swn (g:=11) rfl (by simpa using h2) L rfl ?_)))
   refine swn (g:=11) rfl (by simpa using h2) L rfl ?_
   refine swn (g:=11) rfl (by simpa using h2) L rfl ?_
   refine swn (g:=11) rfl (by simpa using h2) L rfl ?_
   refine sw (c_pf (by simpa using h2) L) t2 t0 ?_
   refine mV L rfl (swn (g:=17) rfl rfl L rfl (swn (g:=17) rfl rfl L rfl (swn (g:=17) rfl rfl L rfl (swn (g:=17) rfl rfl L rfl (swn (g:=17) rfl rfl L rfl (swn (g:=17) rfl rfl L rfl (swn (g:=17) rfl rfl L rfl (swn (g:=17) rfl rfl L rfl (sw (c_pf rfl L) t2 t0 (aV L rfl ?_))))))))))
   exact seq_nil ⟨⟨ob rfl rfl,trivial⟩,trivial⟩
 refine ex_ret ?_
 refine ⟨.inr rfl,ResVs.cast (.cons (.tmp rfl) .nil) ?_⟩
 rfl
theorem qis_z (a b:Int)(ha:nw a<1000000000)(hb:nw b<1000000000):Says E 107 [pN a b] (bZ (decide (0<b∧(Int.gcd a b:Int)=1))):=by
 refine says_of (xs:=[bZ (decide (0<b∧(Int.gcd a b:Int)=1))]) Tryz.func107 rfl Tryz.ntmps107 Tryz.results107 sM fun F hG hX0 hnt hdf P0=>?_
 obtain ⟨L,hX,hN⟩:=pro hnt hX0 hG
 refine exr (swb (c_bx (k:=1) (n:=4) pa4 rfl rfl (P0 _ rfl) L) t1 t0 ⟨rfl,rfl⟩ (aV L rfl (zn [(1,_)] [(1,_)] t1 t1 ?_)))
 refine exm (sl:=[(2,vb (decide (0<b∧(Int.gcd a b:Int)=1)))]) (sl0:=[]) (hb:=[]) (hb0:=[]) t0 t0 ?_ ?_
 ·by_cases h1:0<b
  ·refine sw (c_fa un47 rfl sz45 dC rX L) t1 t1 ?_
   refine lp2 ag45 sz45 L rfl rfl (cK hG hX cl130 hN (isZ a oM) L t1 (mV L rfl (swg (g:=6) rfl rfl (c_fa un47 rfl sz45 dC rX L) rfl t1 t1 ?_)))
   refine swg (g:=6) rfl rfl (c_lp ag45 sz45 rF (by exact al2) rfl L) rfl t1 t1 ?_
   refine swg (g:=6) rfl rfl (c_c hG hX cl130 rfl hN (isZ b oM) L) rfl t1 t0 (sw (c_pt rfl L) t2 t0 (mV L rfl (swg (g:=11) rfl rfl (c_fa un47 rfl sz45 dC rX L) rfl t1 t1 ?_)))
   refine swg (g:=11) rfl rfl (c_lp ag45 sz45 rF (by exact al2) rfl L) rfl t1 t1 ?_
   refine swg (g:=11) rfl rfl (c_c hG hX cl134 rfl hN (signZ b oM) L) rfl t1 t0 (swg (g:=11) rfl rfl (c_gt L) rfl t2 t0 (sw (c_pt rfl L) t2 t0 (mV L rfl (swg (g:=17) rfl (decide_eq_true (sgt.2 h1)) (c_fa un47 rfl sz45 dC rX L) rfl t1 t1 ?_))))
   refine swg (g:=17) rfl (decide_eq_true (sgt.2 h1)) (c_lp ag45 sz45 rF (by exact al2) rfl L) rfl t1 t1 ?_
   refine swg (g:=17) rfl (decide_eq_true (sgt.2 h1)) (c_fa un47 rfl sz45 dC rX L) rfl t1 t1 ?_
   refine swg (g:=17) rfl (decide_eq_true (sgt.2 h1)) (c_lp ag45 sz45 rF (by exact al2) rfl L) rfl t1 t1 ?_
   refine swg (g:=17) rfl (decide_eq_true (sgt.2 h1)) (c_c hG hX cl135 rfl hN (gcdZ a b oM oM) L) rfl t2 t0 (swg (g:=17) rfl (decide_eq_true (sgt.2 h1)) (c_c hG hX cl128 rfl hN one_says L) rfl trivial trivial (swg (g:=17) rfl (decide_eq_true (sgt.2 h1)) (c_c hG hX cl114 rfl hN (cmpZ (Int.gcd a b:Int) 1 (gn1 a h1 hb) (by rw [nw_one]; decide)) L) rfl t2 t0 ?_))
   refine swg (g:=17) rfl (decide_eq_true (sgt.2 h1)) (c_e L) rfl t2 t0 (sw (c_pt (decide_eq_true (sgt.2 h1)) L) t2 t0 (aV L rfl ?_))
   exact seq_nil ⟨⟨ob rfl (by rw [dec_eq (and_iff_right h1)]; exact dec_eq cmp0),trivial⟩,trivial⟩
  ·refine sw (c_fa un47 rfl sz45 dC rX L) t1 t1 ?_
   refine lp2 ag45 sz45 L rfl rfl (cK hG hX cl130 hN (isZ a oM) L t1 (mV L rfl (swg (g:=6) rfl rfl (c_fa un47 rfl sz45 dC rX L) rfl t1 t1 ?_)))
   refine swg (g:=6) rfl rfl (c_lp ag45 sz45 rF (by exact al2) rfl L) rfl t1 t1 ?_
   refine swg (g:=6) rfl rfl (c_c hG hX cl130 rfl hN (isZ b oM) L) rfl t1 t0 (sw (c_pt rfl L) t2 t0 (mV L rfl (swg (g:=11) rfl rfl (c_fa un47 rfl sz45 dC rX L) rfl t1 t1 ?_)))
   refine swg (g:=11) rfl rfl (c_lp ag45 sz45 rF (by exact al2) rfl L) rfl t1 t1 ?_
   refine swg (g:=11) rfl rfl (c_c hG hX cl134 rfl hN (signZ b oM) L) rfl t1 t0 (swg (g:=11) rfl rfl (c_gt L) rfl t2 t0 (sw (c_pt rfl L) t2 t0 (mV L rfl (swn (g:=17) rfl (decide_eq_false (mt sgt.1 h1)) L rfl (swn (g:=17) rfl (decide_eq_false (mt sgt.1 h1)) L rfl (swn (g:=17) rfl (decide_eq_false (mt sgt.1 h1)) L rfl (swn (g:=17) rfl (decide_eq_false (mt sgt.1 h1)) L rfl (swn (g:=17) rfl (decide_eq_false (mt sgt.1 h1)) L rfl (swn (g:=17) rfl (decide_eq_false (mt sgt.1 h1)) L rfl (swn (g:=17) rfl (decide_eq_false (mt sgt.1 h1)) L rfl (swn (g:=17) rfl (decide_eq_false (mt sgt.1 h1)) L rfl ?_)))))))))))
   refine sw (c_pf (decide_eq_false (mt sgt.1 h1)) L) t2 t0 (aV L rfl ?_)
   exact seq_nil ⟨⟨ob rfl (decide_eq_false (fun h=>h1 h.1)).symm,trivial⟩,trivial⟩
 refine ex_ret ?_
 refine ⟨.inr rfl,ResVs.cast (.cons (.tmp rfl) .nil) ?_⟩
 rfl
theorem rnegZ (a:Int)(ha:nw a<999999999999):Says E 105 [pZ a] (pZ (-a)):=by
 have:=rneg_says (decide (a<0)) (digs a.natAbs) (by unfold nw at ha; omega) (wd_digs _)
 rwa [if_pos (canon_digs a),sg_digs] at this
theorem raddZ (a b:Int)(ha:nw a<999999999999)(hb:nw b<999999999999):Says E 116 [pZ a,pZ b] (pZ (a+b)):=by
 have:=raddI_says (decide (a<0)) (decide (b<0)) (digs a.natAbs) (digs b.natAbs) (by unfold nw at ha; omega) (by unfold nw at hb; omega) (wd_digs _) (wd_digs _)
 rwa [if_pos ⟨canon_digs a,canon_digs b⟩,sg_digs,sg_digs] at this
theorem risZ (a:Int)(ha:nw a<999999999999):Says E 77 [pZ a] (bZ true):=by
 have:=ris_says (decide (a<0)) (digs a.natAbs) (by unfold nw at ha; omega)
 rwa [canon_digs a] at this
theorem digs_inj {a b:Int}:((decide (a<0))=decide (b<0)∧digs a.natAbs=digs b.natAbs)↔a=b:=by
 constructor
 ·rintro ⟨h1,h2⟩
  have:=congrArg val h2
  rw [val_digs,val_digs] at this
  have h1:a<0↔b<0:=by simpa using h1
  omega
 ·rintro rfl; exact ⟨rfl,rfl⟩
theorem rsameZ (a b:Int)(ha:nw a<999999999999)(hb:nw b<999999999999):Says E 79 [pZ a,pZ b] (bZ (decide (a=b))):=by
 have:=rsame_says (decide (a<0)) (decide (b<0)) (digs a.natAbs) (digs b.natAbs) (by unfold nw at ha; omega) (by unfold nw at hb; omega)
 rwa [dec_eq digs_inj] at this
theorem risOneZ (n:Int)(h:nw n<999999999999):Says E 115 [pZ n] (bZ (decide (n=1))):=by
 refine says_of (xs:=[bZ (decide (n=1))]) Tryz.func115 rfl Tryz.ntmps115 Tryz.results115 sM fun F hG hX0 hnt hdf P0=>?_
 obtain ⟨L,hX,hN⟩:=pro hnt hX0 hG
 unfold nw at h
 refine exr (swb (c_bx (k:=1) (n:=2) pa2 rfl rfl (P0 _ rfl) L) t1 t0 ⟨rfl,rfl⟩ (aV L rfl (zn [(1,_)] [(1,_)] t1 t1 ?_)))
 refine exm (sl:=[(2,vb (decide (n=1)))]) (sl0:=[]) (hb:=[]) (hb0:=[]) t0 t0 ?_ ?_
 ·rcases one3 n with ⟨h1,h2⟩ | ⟨h1,h2,h3⟩ | ⟨h1,h2,h3⟩
  ·refine sw (c_fa un45 rfl sz43 dC rX L) t1 t1 ?_
   refine sw (c_l1 ag43 rF rF L) t1 t1 ?_
   refine sw (c_ln un43 L) t1 t0 (sw (c_e L) t2 t0 (mV L rfl (swn (g:=7) rfl sO L rfl (swn (g:=7) rfl sO L rfl (swn (g:=7) rfl sO L rfl (swn (g:=7) rfl sO L rfl (swn (g:=7) rfl sO L rfl (sw (c_pf sO L) t2 t0 (mV L rfl (swn (g:=14) rfl rfl L rfl (swn (g:=14) rfl rfl L rfl ?_)))))))))))
   refine swn (g:=14) rfl rfl L rfl (sw (c_pf rfl L) t2 t0 (aV L rfl ?_))
   exact seq_nil ⟨⟨ob rfl (by simp [h2]),trivial⟩,trivial⟩
  ·refine sw (c_fa un45 rfl sz43 dC rX L) t1 t1 ?_
   refine sw (c_l1 ag43 rF rF L) t1 t1 ?_
   refine sw (c_ln un43 L) t1 t0 (sw (c_e L) t2 t0 (mV L rfl (swg (g:=7) rfl sO (c_fa un45 rfl sz43 dC rX L) rfl t1 t1 ?_)))
   refine swg (g:=7) rfl sO (c_l1 ag43 rF rF L) rfl t1 t1 ?_
   refine swg (g:=7) rfl sO (ixJ un43 sz119 (j:=0) rfl oM sM L) rfl t2 t0 ?_
   refine swg (g:=7) rfl sO (c_li ag119 (by first | exact getW oM | rfl) L) rfl t1 t0 ?_
   refine swg (g:=7) rfl sO (c_e L) rfl t2 t0 (sw (c_pt sO L) t2 t0 (mV L rfl (swn (g:=14) rfl (by simpa using h2) L rfl ?_)))
   refine swn (g:=14) rfl (by simpa using h2) L rfl ?_
   refine swn (g:=14) rfl (by simpa using h2) L rfl ?_
   refine sw (c_pf (by simpa using h2) L) t2 t0 ?_
   refine aV L rfl ?_
   exact seq_nil ⟨⟨ob rfl (by simp [h3]),trivial⟩,trivial⟩
  ·refine sw (c_fa un45 rfl sz43 dC rX L) t1 t1 ?_
   refine sw (c_l1 ag43 rF rF L) t1 t1 ?_
   refine sw (c_ln un43 L) t1 t0 (sw (c_e L) t2 t0 (mV L rfl (swg (g:=7) rfl sO (c_fa un45 rfl sz43 dC rX L) rfl t1 t1 ?_)))
   refine swg (g:=7) rfl sO (c_l1 ag43 rF rF L) rfl t1 t1 ?_
   refine swg (g:=7) rfl sO (ixJ un43 sz119 (j:=0) rfl oM sM L) rfl t2 t0 ?_
   refine swg (g:=7) rfl sO (c_li ag119 (by first | exact getW oM | rfl) L) rfl t1 t0 ?_
   refine swg (g:=7) rfl sO (c_e L) rfl t2 t0 (sw (c_pt sO L) t2 t0 (mV L rfl (swg (g:=14) rfl (by simpa using h2) (c_fa un45 rfl sz4 dC rX L) rfl t1 t1 ?_)))
   refine swg (g:=14) rfl (by simpa using h2) (c_l1 ag4 rF rF L) rfl t1 t1 ?_
   refine swg (g:=14) rfl (by simpa using h2) (c_no L) rfl t1 t0 ?_
   refine sw (c_pt (by simpa using h2) L) t2 t0 ?_
   refine aV L rfl ?_
   exact seq_nil ⟨⟨ob rfl (by rw [dec_eq h3]; exact (decide_not ..).symm),trivial⟩,trivial⟩
 refine ex_ret ?_
 refine ⟨.inr rfl,ResVs.cast (.cons (.tmp rfl) .nil) ?_⟩
 rfl
theorem rone_says  : Says E 81 [] (pZ 1):=by
 refine says_of (xs:=[pZ 1]) Tryz.func81 rfl Tryz.ntmps81 Tryz.results81 sM fun F hG hX0 hnt hdf P0=>?_
 obtain ⟨L,hX,hN⟩:=pro hnt hX0 hG
 refine exr (swb (c_al (k:=0) (n:=2) zv45 (.cons rfl (.cons rfl .nil)) rfl (P0 _ rfl) L) t0 t0 ⟨rfl,rfl⟩ (zn [(0,_)] [(0,_)] t1 t1 (exr (cK hG hX cl119 hN (rof_says 1 dC dC) L t1 (sb (c_sm sz45 rF pa2 rfl pu2) t2 t1 ?_)))))
 refine zn [(0,_)] [(0,_)] t1 t1 (ex_ret ?_)
 refine ⟨.inr rfl,ResVs.cast (.cons (.agg rfl rfl rfl ag45 sz45 (.cons (.cons .nil))) .nil) ?_⟩
 rfl
theorem roverZ (n d:Int)(h0:d≠0)(hn:nw n<9000000000)(hd:nw d<9000000000):Says E 82 [pZ n,pZ d] (pQ (Rat.divInt n d)):=by
 refine says_of (xs:=[pQ (Rat.divInt n d)]) Tryz.func82 rfl Tryz.ntmps82 Tryz.results82 sM fun F hG hX0 hnt hdf P0=>?_
 obtain ⟨L,hX,hN⟩:=pro hnt hX0 hG
 have hg:=gn (n:=n) h0 hd
 have hs:=sgcd_ne (n:=n) h0
 have hw:=sgcd_nw (n:=n) h0
 refine exr (swb (c_bx (k:=2) (n:=2) pa2 rfl rfl (P0 _ rfl) L) t1 t0 ⟨rfl,rfl⟩ (swb (c_bx (k:=3) (n:=2) pa2 rfl rfl (P0 _ rfl) L) t1 t0 ⟨rfl,rfl⟩ (swb (c_al (k:=4) (n:=4) zv47 (.cons rfl (.cons rfl (.cons rfl (.cons rfl .nil)))) rfl (P0 _ rfl) L) t0 t0 ⟨rfl,rfl⟩ (zn [(2,_),(3,_),(4,_)] [(2,_),(3,_),(4,_)] t3 t3 (ex_seq (exr (lp2 ag45 sz45 L rfl rfl (cK hG hX cl115 hN (risOneZ d oM) L t1 (zn [(2,_),(3,_),(4,_),(7,_)] [(2,_),(3,_),(4,_)] t4 t3 ?_)))))))))
 refine ex_if rfl (fun h1=>?_) (fun h1=>?_)
 ·have h1:=dt h1
  refine exr (lp2 ag45 sz45 L rfl rfl (lp2 ag45 sz45 L rfl rfl (sw (c_bp (vs:=[_,_]) un47 zv47 (.cons rfl (.cons rfl (.cons rfl (.cons rfl .nil)))) ((Places.cons sz45 (Places.cons sz45 Places.nil))).to rfl (.cons rfl pa2 rfl pu2 (.cons rfl pa2 rfl (.skip (.skip pu2)) .nil)) (.cons (.cons (.cons (.cons .nil)))) L) t2 t0 (sb (c_sm sz47 rF pa4 rfl pu4) t2 t1 ?_))))
  refine zn [(4,_)] [(4,_)] t1 t1 (ex_ret ?_)
  refine ⟨.inr rfl,ResVs.cast (.cons (.agg rfl rfl rfl ag47 sz47 (.cons (.cons (.cons (.cons .nil))))) .nil) ?_⟩
  exact congrArg (· :: []) (cN (by rw [h1,divInt_one']; rfl) (by rw [h1,divInt_one']; rfl))
 ·refine ex_skip (xq ?_)
  refine exr (lp2 ag45 sz45 L rfl rfl (lp2 ag45 sz45 L rfl rfl (cK hG hX cl80 hN (rgcdZ n d oM oM) L t2 (swb (c_al (k:=5) (n:=2) zv45 (.cons rfl (.cons rfl .nil)) rfl (P0 _ rfl) L) t0 t0 ⟨rfl,rfl⟩ (sb (c_sm sz45 rF pa2 rfl pu2) t2 t1 ?_)))))
  refine zn [(2,_),(3,_),(4,_),(5,_)] [(2,_),(3,_),(4,_),(5,_)] t4 t4 (ex_seq ?_)
  refine exm (sl:=[(20,vb (decide ((Int.gcd n d:Int)=1∧¬ d<0)))]) (sl0:=[(2,_),(3,_),(4,_),(5,_)]) (hb:=[]) (hb0:=[(2,_),(3,_),(4,_),(5,_)]) t4 t4 ?_ ?_
  ·by_cases hg1:(Int.gcd n d:Int)=1
   ·refine lp2 ag45 sz45 L rfl rfl (cK hG hX cl115 hN (risOneZ (Int.gcd n d:Int) oM) L t1 (mV L rfl (swg (g:=16) rfl (by simp [hg1]) (c_fa un45 rfl sz4 dC rX L) rfl t1 t1 ?_)))
    refine swg (g:=16) rfl (by simp [hg1]) (c_l1 ag4 rF rF L) rfl t1 t1 ?_
    refine swg (g:=16) rfl (by simp [hg1]) (c_no L) rfl t1 t0 ?_
    refine sw (c_pt (by simp [hg1]) L) t2 t0 ?_
    exact seq_nil ⟨⟨ob rfl (by simp only [hg1,true_and]; exact (decide_not ..).symm),rfl,rfl,rfl,rfl,trivial⟩,t4⟩
   ·refine lp2 ag45 sz45 L rfl rfl (cK hG hX cl115 hN (risOneZ (Int.gcd n d:Int) oM) L t1 (mV L rfl (swn (g:=16) rfl (by simp [hg1]) L rfl ?_)))
    refine swn (g:=16) rfl (by simp [hg1]) L rfl ?_
    refine swn (g:=16) rfl (by simp [hg1]) L rfl ?_
    refine sw (c_pf (by simp [hg1]) L) t2 t0 ?_
    exact seq_nil ⟨⟨ob rfl (by simp [hg1]),rfl,rfl,rfl,rfl,trivial⟩,t4⟩
  refine ex_if rfl (fun h2=>?_) (fun h2=>?_)
  ·have h2:=dt h2
   have hh:=sgcd_one (n:=n) (d:=d) oM h2.2
   refine exr (lp2 ag45 sz45 L rfl rfl (lp2 ag45 sz45 L rfl rfl (sw (c_bp (vs:=[_,_]) un47 zv47 (.cons rfl (.cons rfl (.cons rfl (.cons rfl .nil)))) ((Places.cons sz45 (Places.cons sz45 Places.nil))).to rfl (.cons rfl pa2 rfl pu2 (.cons rfl pa2 rfl (.skip (.skip pu2)) .nil)) (.cons (.cons (.cons (.cons .nil)))) L) t2 t0 (sb (c_sm sz47 rF pa4 rfl pu4) t2 t1 ?_))))
   refine zn [(4,_)] [(4,_)] t1 t1 (ex_ret ?_)
   refine ⟨.inr rfl,ResVs.cast (.cons (.agg rfl rfl rfl ag47 sz47 (.cons (.cons (.cons (.cons .nil))))) .nil) ?_⟩
   exact congrArg (· :: []) (cN (by rw [ovr_num h0,hh,Int.ediv_one]) (by rw [ovr_den h0,hh,Int.ediv_one]))
  ·refine ex_skip (xq ?_)
   refine ex_seq (exr (lp2 ag45 sz45 L rfl rfl (cK hG hX cl78 hN (rsignZ d oM) L t1 (sw (c_ls L) t2 t0 (zn [(2,_),(3,_),(4,_),(5,_),(26,_)] [(2,_),(3,_),(4,_),(5,_)] t5 t4 ?_)))))
   refine ex_if rfl (fun h4=>?_) (fun h4=>?_)
   ·have h4:=dt h4
    rw [sg0] at h4
    rw [sgn h4] at hs hw
    refine exr0 (lp2 ag45 sz45 L rfl rfl (cK hG hX cl105 hN (rnegZ (Int.gcd n d:Int) oM) L t1 (sb (c_sm sz45 rF pa2 rfl pu2) t2 t1 ?_)))
    refine seq_nil (exd rF ?_)
    refine lp2 ag45 sz45 L rfl rfl (lp2 ag45 sz45 L rfl rfl (cK hG hX cl121 hN (rquoZ n (-(Int.gcd n d:Int)) oM oM hs) L t2 (lp2 ag45 sz45 L rfl rfl (lp2 ag45 sz45 L rfl rfl (cK hG hX cl121 hN (rquoZ d (-(Int.gcd n d:Int)) oM oM hs) L t2 (sw (c_bp (vs:=[_,_]) un47 zv47 (.cons rfl (.cons rfl (.cons rfl (.cons rfl .nil)))) ((Places.cons sz45 (Places.cons sz45 Places.nil))).to rfl (.cons rfl pa2 rfl pu2 (.cons rfl pa2 rfl (.skip (.skip pu2)) .nil)) (.cons (.cons (.cons (.cons .nil)))) L) t2 t0 (sb (c_sm sz47 rF pa4 rfl pu4) t2 t1 ?_)))))))
    refine seq_nil ⟨aoks [⟨[2],[2],[29],[]⟩,⟨[5],[5],[30],[]⟩,⟨[29,30],[],[31],[]⟩,⟨[3],[3],[32],[]⟩,⟨[5],[5],[33],[]⟩,⟨[32,33],[],[34],[]⟩,⟨[31,34],[],[35],[]⟩,⟨[4,35],[4],[],[4]⟩] rF rF dC,[(4,_)],[(4,_)],t1,t1,?_⟩
    refine ex_ret ?_
    refine ⟨.inr rfl,ResVs.cast (.cons (.agg rfl rfl rfl ag47 sz47 (.cons (.cons (.cons (.cons .nil))))) .nil) ?_⟩
    exact congrArg (· :: []) (cN (by rw [ovr_num h0,sgn h4]) (by rw [ovr_den h0,sgn h4]))
   ·have h4:=df h4
    rw [sg0] at h4
    rw [sgp h4] at hs hw
    refine ex_skip (xq ?_)
    refine exd rF ?_
    refine lp2 ag45 sz45 L rfl rfl (lp2 ag45 sz45 L rfl rfl (cK hG hX cl121 hN (rquoZ n (Int.gcd n d:Int) oM oM hs) L t2 (lp2 ag45 sz45 L rfl rfl (lp2 ag45 sz45 L rfl rfl (cK hG hX cl121 hN (rquoZ d (Int.gcd n d:Int) oM oM hs) L t2 (sw (c_bp (vs:=[_,_]) un47 zv47 (.cons rfl (.cons rfl (.cons rfl (.cons rfl .nil)))) ((Places.cons sz45 (Places.cons sz45 Places.nil))).to rfl (.cons rfl pa2 rfl pu2 (.cons rfl pa2 rfl (.skip (.skip pu2)) .nil)) (.cons (.cons (.cons (.cons .nil)))) L) t2 t0 (sb (c_sm sz47 rF pa4 rfl pu4) t2 t1 ?_)))))))
    refine seq_nil ⟨aoks [⟨[2],[2],[29],[]⟩,⟨[5],[5],[30],[]⟩,⟨[29,30],[],[31],[]⟩,⟨[3],[3],[32],[]⟩,⟨[5],[5],[33],[]⟩,⟨[32,33],[],[34],[]⟩,⟨[31,34],[],[35],[]⟩,⟨[4,35],[4],[],[4]⟩] rF rF dC,[(4,_)],[(4,_)],t1,t1,?_⟩
    refine ex_ret ?_
    refine ⟨.inr rfl,ResVs.cast (.cons (.agg rfl rfl rfl ag47 sz47 (.cons (.cons (.cons (.cons .nil))))) .nil) ?_⟩
    exact congrArg (· :: []) (cN (by rw [ovr_num h0,sgp h4]) (by rw [ovr_den h0,sgp h4]))
theorem rqmul_says (a b:Rat)(ha:qw a<1000000000)(hb:qw b<1000000000):Says E 37 [pQ a,pQ b] (pQ (a*b)):=by
 refine says_of (xs:=[pQ (a*b)]) Tryz.func37 rfl Tryz.ntmps37 Tryz.results37 sM fun F hG hX0 hnt hdf P0=>?_
 obtain ⟨L,hX,hN⟩:=pro hnt hX0 hG
 have h1:=nw_num_le a
 have h2:=nw_num_le b
 have h3:=nw_den_le a
 have h4:=nw_den_le b
 have h5:=nw_mul a.num b.num
 have h6:=nw_mul a.den b.den
 refine exr (swb (c_bx (k:=2) (n:=4) pa4 rfl rfl (P0 _ rfl) L) t1 t0 ⟨rfl,rfl⟩ (swb (c_bx (k:=3) (n:=4) pa4 rfl rfl (P0 _ rfl) L) t1 t0 ⟨rfl,rfl⟩ (swb (c_al (k:=4) (n:=4) zv47 (.cons rfl (.cons rfl (.cons rfl (.cons rfl .nil)))) rfl (P0 _ rfl) L) t0 t0 ⟨rfl,rfl⟩ (zn [(2,_),(3,_),(4,_)] [(2,_),(3,_),(4,_)] t3 t3 (exd rF ?_)))))
 refine sw (c_fa un47 rfl sz45 dC rX L) t1 t1 ?_
 refine lp2 ag45 sz45 L rfl rfl (sw (c_fa un47 rfl sz45 dC rX L) t1 t1 ?_)
 refine lp2 ag45 sz45 L rfl rfl (cK hG hX cl83 hN (rmulZ2 a.num b.num oM oM) L t2 (sw (c_fa un47 rfl sz45 dC rX L) t1 t1 ?_))
 refine lp2 ag45 sz45 L rfl rfl (sw (c_fa un47 rfl sz45 dC rX L) t1 t1 ?_)
 refine lp2 ag45 sz45 L rfl rfl (cK hG hX cl83 hN (rmulZ2 a.den b.den oM oM) L t2 (cK hG hX cl82 hN (roverZ (a.num*b.num) (a.den*b.den) (Int.mul_ne_zero (den_ne a) (den_ne b)) oM oM) L t2 (sb (c_sm sz47 rF pa4 rfl pu4) t2 t1 ?_)))
 refine seq_nil ⟨aoks [⟨[2],[2],[5],[]⟩,⟨[5],[2],[6],[]⟩,⟨[3],[3],[7],[]⟩,⟨[7],[3],[8],[]⟩,⟨[6,8],[],[9],[]⟩,⟨[2],[2],[10],[]⟩,⟨[10],[2],[11],[]⟩,⟨[3],[3],[12],[]⟩,⟨[12],[3],[13],[]⟩,⟨[11,13],[],[14],[]⟩,⟨[9,14],[],[15],[]⟩,⟨[4,15],[4],[],[4]⟩] rF rF dC,[(4,_)],[(4,_)],t1,t1,?_⟩
 refine ex_ret ?_
 refine ⟨.inr rfl,ResVs.cast (.cons (.agg rfl rfl rfl ag47 sz47 (.cons (.cons (.cons (.cons .nil))))) .nil) ?_⟩
 rw [q_mul]
theorem rqadd_says (a b:Rat)(ha:qw a<1000000000)(hb:qw b<1000000000):Says E 76 [pQ a,pQ b] (pQ (a+b)):=by
 refine says_of (xs:=[pQ (a+b)]) Tryz.func76 rfl Tryz.ntmps76 Tryz.results76 sM fun F hG hX0 hnt hdf P0=>?_
 obtain ⟨L,hX,hN⟩:=pro hnt hX0 hG
 have h1:=nw_num_le a
 have h2:=nw_num_le b
 have h3:=nw_den_le a
 have h4:=nw_den_le b
 have h5:=nw_mul a.num b.den
 have h6:=nw_mul b.num a.den
 have h7:=nw_mul a.den b.den
 have h8:=nw_add (a.num*b.den) (b.num*a.den)
 refine exr (swb (c_bx (k:=2) (n:=4) pa4 rfl rfl (P0 _ rfl) L) t1 t0 ⟨rfl,rfl⟩ (swb (c_bx (k:=3) (n:=4) pa4 rfl rfl (P0 _ rfl) L) t1 t0 ⟨rfl,rfl⟩ (swb (c_al (k:=4) (n:=4) zv47 (.cons rfl (.cons rfl (.cons rfl (.cons rfl .nil)))) rfl (P0 _ rfl) L) t0 t0 ⟨rfl,rfl⟩ (zn [(2,_),(3,_),(4,_)] [(2,_),(3,_),(4,_)] t3 t3 (ex_seq ?_)))))
 refine exm (sl:=[(12,vb (decide ((a.den:Int)=1∧(b.den:Int)=1)))]) (sl0:=[(2,_),(3,_),(4,_)]) (hb:=[]) (hb0:=[(2,_),(3,_),(4,_)]) t3 t3 ?_ ?_
 ·by_cases hd:(a.den:Int)=1
  ·refine sw (c_fa un47 rfl sz45 dC rX L) t1 t1 ?_
   refine lp2 ag45 sz45 L rfl rfl (cK hG hX cl115 hN (risOneZ a.den oM) L t1 (mV L rfl (swg (g:=8) rfl (by simpa using hd) (c_fa un47 rfl sz45 dC rX L) rfl t1 t1 ?_)))
   refine swg (g:=8) rfl (by simpa using hd) (c_lp ag45 sz45 rF (by exact al2) rfl L) rfl t1 t1 ?_
   refine swg (g:=8) rfl (by simpa using hd) (c_c hG hX cl115 rfl hN (risOneZ b.den oM) L) rfl t1 t0 ?_
   refine sw (c_pt (by simpa using hd) L) t2 t0 ?_
   exact seq_nil ⟨⟨ob rfl (by simp only [hd,true_and]),rfl,rfl,rfl,trivial⟩,t3⟩
  ·refine sw (c_fa un47 rfl sz45 dC rX L) t1 t1 ?_
   refine lp2 ag45 sz45 L rfl rfl (cK hG hX cl115 hN (risOneZ a.den oM) L t1 (mV L rfl (swn (g:=8) rfl (by simpa using hd) L rfl ?_)))
   refine swn (g:=8) rfl (by simpa using hd) L rfl ?_
   refine swn (g:=8) rfl (by simpa using hd) L rfl ?_
   refine sw (c_pf (by simpa using hd) L) t2 t0 ?_
   exact seq_nil ⟨⟨ob rfl (by simp only [hd,false_and]; rfl),rfl,rfl,rfl,trivial⟩,t3⟩
 refine ex_if rfl (fun hc=>?_) (fun hc=>?_)
 ·have hc:=dt hc
  refine exd rF ?_
  refine sw (c_fa un47 rfl sz45 dC rX L) t1 t1 ?_
  refine lp2 ag45 sz45 L rfl rfl (sw (c_fa un47 rfl sz45 dC rX L) t1 t1 ?_)
  refine lp2 ag45 sz45 L rfl rfl (cK hG hX cl116 hN (raddZ a.num b.num oM oM) L t2 (sw (c_fa un47 rfl sz45 dC rX L) t1 t1 ?_))
  refine lp2 ag45 sz45 L rfl rfl (sw (c_bp (vs:=[_,_]) un47 zv47 (.cons rfl (.cons rfl (.cons rfl (.cons rfl .nil)))) ((Places.cons sz45 (Places.cons sz45 Places.nil))).to rfl (.cons rfl pa2 rfl pu2 (.cons rfl pa2 rfl (.skip (.skip pu2)) .nil)) (.cons (.cons (.cons (.cons .nil)))) L) t2 t0 (sb (c_sm sz47 rF pa4 rfl pu4) t2 t1 ?_))
  refine seq_nil ⟨aoks [⟨[2],[2],[13],[]⟩,⟨[13],[2],[14],[]⟩,⟨[3],[3],[15],[]⟩,⟨[15],[3],[16],[]⟩,⟨[14,16],[],[17],[]⟩,⟨[2],[2],[18],[]⟩,⟨[18],[2],[19],[]⟩,⟨[17,19],[],[20],[]⟩,⟨[4,20],[4],[],[4]⟩] rF rF dC,[(4,_)],[(4,_)],t1,t1,?_⟩
  refine ex_ret ?_
  refine ⟨.inr rfl,ResVs.cast (.cons (.agg rfl rfl rfl ag47 sz47 (.cons (.cons (.cons (.cons .nil))))) .nil) ?_⟩
  exact congrArg (· :: []) (cN (by rw [← q_add,hc.1,hc.2,Int.mul_one,Int.mul_one,Int.mul_one,divInt_one']; rfl) (by rw [← q_add,hc.1,hc.2,Int.mul_one,Int.mul_one,Int.mul_one,divInt_one']; rfl))
 ·refine ex_skip (xq ?_)
  refine exd rF ?_
  refine sw (c_fa un47 rfl sz45 dC rX L) t1 t1 ?_
  refine lp2 ag45 sz45 L rfl rfl (sw (c_fa un47 rfl sz45 dC rX L) t1 t1 ?_)
  refine lp2 ag45 sz45 L rfl rfl (cK hG hX cl83 hN (rmulZ2 a.num b.den oM oM) L t2 (sw (c_fa un47 rfl sz45 dC rX L) t1 t1 ?_))
  refine lp2 ag45 sz45 L rfl rfl (sw (c_fa un47 rfl sz45 dC rX L) t1 t1 ?_)
  refine lp2 ag45 sz45 L rfl rfl (cK hG hX cl83 hN (rmulZ2 b.num a.den oM oM) L t2 (cK hG hX cl116 hN (raddZ (a.num*b.den) (b.num*a.den) oM oM) L t2 (sw (c_fa un47 rfl sz45 dC rX L) t1 t1 ?_)))
  refine lp2 ag45 sz45 L rfl rfl (sw (c_fa un47 rfl sz45 dC rX L) t1 t1 ?_)
  refine lp2 ag45 sz45 L rfl rfl (cK hG hX cl83 hN (rmulZ2 a.den b.den oM oM) L t2 (cK hG hX cl82 hN (roverZ (a.num*b.den+b.num*a.den) (a.den*b.den) (Int.mul_ne_zero (den_ne a) (den_ne b)) oM oM) L t2 (sb (c_sm sz47 rF pa4 rfl pu4) t2 t1 ?_)))
  refine seq_nil ⟨aoks [⟨[2],[2],[21],[]⟩,⟨[21],[2],[22],[]⟩,⟨[3],[3],[23],[]⟩,⟨[23],[3],[24],[]⟩,⟨[22,24],[],[25],[]⟩,⟨[3],[3],[26],[]⟩,⟨[26],[3],[27],[]⟩,⟨[2],[2],[28],[]⟩,⟨[28],[2],[29],[]⟩,⟨[27,29],[],[30],[]⟩,⟨[25,30],[],[31],[]⟩,⟨[2],[2],[32],[]⟩,⟨[32],[2],[33],[]⟩,⟨[3],[3],[34],[]⟩,⟨[34],[3],[35],[]⟩,⟨[33,35],[],[36],[]⟩,⟨[31,36],[],[37],[]⟩,⟨[4,37],[4],[],[4]⟩] rF rF dC,[(4,_)],[(4,_)],t1,t1,?_⟩
  refine ex_ret ?_
  refine ⟨.inr rfl,ResVs.cast (.cons (.agg rfl rfl rfl ag47 sz47 (.cons (.cons (.cons (.cons .nil))))) .nil) ?_⟩
  rw [q_add]
theorem rqis_no (m n:Bool)(ws vs:List Int)(hl:ws.length<1000000000)(hl2:vs.length<1000000000)(hn:¬ (canon m ws=true∧canon n vs=true)):Says E 36 [pR m ws n vs] (bZ false):=by
 refine says_of (xs:=[bZ false]) Tryz.func36 rfl Tryz.ntmps36 Tryz.results36 sM fun F hG hX0 hnt hdf P0=>?_
 obtain ⟨L,hX,hN⟩:=pro hnt hX0 hG
 refine exr (swb (c_bx (k:=1) (n:=4) pa4 rfl rfl (P0 _ rfl) L) t1 t0 ⟨rfl,rfl⟩ (aV L rfl (zn [(1,_)] [(1,_)] t1 t1 ?_)))
 refine exm (sl:=[(2,vb false)]) (sl0:=[]) (hb:=[]) (hb0:=[]) t0 t0 ?_ ?_
 ·rcases nand2 hn with h1 | ⟨h1,h2⟩
  ·refine sw (c_fa un47 rfl sz45 dC rX L) t1 t1 ?_
   refine lp2 ag45 sz45 L rfl rfl (cK hG hX cl77 hN (ris_says m ws oM) L t1 (mV L rfl (swn (g:=6) rfl (by simpa using h1) L rfl ?_)))
   refine swn (g:=6) rfl (by simpa using h1) L rfl ?_
   refine swn (g:=6) rfl (by simpa using h1) L rfl ?_
   refine sw (c_pf (by simpa using h1) L) t2 t0 ?_
   refine mV L rfl (swn (g:=11) rfl rfl L rfl (swn (g:=11) rfl rfl L rfl (swn (g:=11) rfl rfl L rfl (swn (g:=11) rfl rfl L rfl (sw (c_pf rfl L) t2 t0 (mV L rfl (swn (g:=17) rfl rfl L rfl (swn (g:=17) rfl rfl L rfl (swn (g:=17) rfl rfl L rfl (swn (g:=17) rfl rfl L rfl (swn (g:=17) rfl rfl L rfl ?_)))))))))))
   refine swn (g:=17) rfl rfl L rfl (swn (g:=17) rfl rfl L rfl (sw (c_pf rfl L) t2 t0 (aV L rfl ?_)))
   exact seq_nil ⟨⟨ob rfl rfl,trivial⟩,trivial⟩
  ·refine sw (c_fa un47 rfl sz45 dC rX L) t1 t1 ?_
   refine lp2 ag45 sz45 L rfl rfl (cK hG hX cl77 hN (ris_says m ws oM) L t1 (mV L rfl (swg (g:=6) rfl h1 (c_fa un47 rfl sz45 dC rX L) rfl t1 t1 ?_)))
   refine swg (g:=6) rfl h1 (c_lp ag45 sz45 rF (by exact al2) rfl L) rfl t1 t1 ?_
   refine swg (g:=6) rfl h1 (c_c hG hX cl77 rfl hN (ris_says n vs oM) L) rfl t1 t0 (sw (c_pt h1 L) t2 t0 (mV L rfl (swn (g:=11) rfl (by simpa using h2) L rfl ?_)))
   refine swn (g:=11) rfl (by simpa using h2) L rfl ?_
   refine swn (g:=11) rfl (by simpa using h2) L rfl ?_
   refine swn (g:=11) rfl (by simpa using h2) L rfl ?_
   refine sw (c_pf (by simpa using h2) L) t2 t0 ?_
   refine mV L rfl (swn (g:=17) rfl rfl L rfl (swn (g:=17) rfl rfl L rfl (swn (g:=17) rfl rfl L rfl (swn (g:=17) rfl rfl L rfl (swn (g:=17) rfl rfl L rfl (swn (g:=17) rfl rfl L rfl (swn (g:=17) rfl rfl L rfl (sw (c_pf rfl L) t2 t0 (aV L rfl ?_)))))))))
   exact seq_nil ⟨⟨ob rfl rfl,trivial⟩,trivial⟩
 refine ex_ret ?_
 refine ⟨.inr rfl,ResVs.cast (.cons (.tmp rfl) .nil) ?_⟩
 rfl
theorem rqis_z (a b:Int)(ha:nw a<1000000000)(hb:nw b<1000000000):Says E 36 [pN a b] (bZ (decide (0<b∧(Int.gcd a b:Int)=1))):=by
 refine says_of (xs:=[bZ (decide (0<b∧(Int.gcd a b:Int)=1))]) Tryz.func36 rfl Tryz.ntmps36 Tryz.results36 sM fun F hG hX0 hnt hdf P0=>?_
 obtain ⟨L,hX,hN⟩:=pro hnt hX0 hG
 refine exr (swb (c_bx (k:=1) (n:=4) pa4 rfl rfl (P0 _ rfl) L) t1 t0 ⟨rfl,rfl⟩ (aV L rfl (zn [(1,_)] [(1,_)] t1 t1 ?_)))
 refine exm (sl:=[(2,vb (decide (0<b∧(Int.gcd a b:Int)=1)))]) (sl0:=[]) (hb:=[]) (hb0:=[]) t0 t0 ?_ ?_
 ·by_cases h1:0<b
  ·refine sw (c_fa un47 rfl sz45 dC rX L) t1 t1 ?_
   refine lp2 ag45 sz45 L rfl rfl (cK hG hX cl77 hN (risZ a oM) L t1 (mV L rfl (swg (g:=6) rfl rfl (c_fa un47 rfl sz45 dC rX L) rfl t1 t1 ?_)))
   refine swg (g:=6) rfl rfl (c_lp ag45 sz45 rF (by exact al2) rfl L) rfl t1 t1 ?_
   refine swg (g:=6) rfl rfl (c_c hG hX cl77 rfl hN (risZ b oM) L) rfl t1 t0 (sw (c_pt rfl L) t2 t0 (mV L rfl (swg (g:=11) rfl rfl (c_fa un47 rfl sz45 dC rX L) rfl t1 t1 ?_)))
   refine swg (g:=11) rfl rfl (c_lp ag45 sz45 rF (by exact al2) rfl L) rfl t1 t1 ?_
   refine swg (g:=11) rfl rfl (c_c hG hX cl78 rfl hN (rsignZ b oM) L) rfl t1 t0 (swg (g:=11) rfl rfl (c_gt L) rfl t2 t0 (sw (c_pt rfl L) t2 t0 (mV L rfl (swg (g:=17) rfl (decide_eq_true (sgt.2 h1)) (c_fa un47 rfl sz45 dC rX L) rfl t1 t1 ?_))))
   refine swg (g:=17) rfl (decide_eq_true (sgt.2 h1)) (c_lp ag45 sz45 rF (by exact al2) rfl L) rfl t1 t1 ?_
   refine swg (g:=17) rfl (decide_eq_true (sgt.2 h1)) (c_fa un47 rfl sz45 dC rX L) rfl t1 t1 ?_
   refine swg (g:=17) rfl (decide_eq_true (sgt.2 h1)) (c_lp ag45 sz45 rF (by exact al2) rfl L) rfl t1 t1 ?_
   refine swg (g:=17) rfl (decide_eq_true (sgt.2 h1)) (c_c hG hX cl80 rfl hN (rgcdZ a b oM oM) L) rfl t2 t0 (swg (g:=17) rfl (decide_eq_true (sgt.2 h1)) (c_c hG hX cl81 rfl hN rone_says L) rfl trivial trivial (swg (g:=17) rfl (decide_eq_true (sgt.2 h1)) (c_c hG hX cl79 rfl hN (rsameZ (Int.gcd a b:Int) 1 (gn1 a h1 hb) (by rw [nw_one]; decide)) L) rfl t2 t0 ?_))
   refine sw (c_pt (decide_eq_true (sgt.2 h1)) L) t2 t0 (aV L rfl ?_)
   exact seq_nil ⟨⟨ob rfl (by rw [dec_eq (and_iff_right h1)]),trivial⟩,trivial⟩
  ·refine sw (c_fa un47 rfl sz45 dC rX L) t1 t1 ?_
   refine lp2 ag45 sz45 L rfl rfl (cK hG hX cl77 hN (risZ a oM) L t1 (mV L rfl (swg (g:=6) rfl rfl (c_fa un47 rfl sz45 dC rX L) rfl t1 t1 ?_)))
   refine swg (g:=6) rfl rfl (c_lp ag45 sz45 rF (by exact al2) rfl L) rfl t1 t1 ?_
   refine swg (g:=6) rfl rfl (c_c hG hX cl77 rfl hN (risZ b oM) L) rfl t1 t0 (sw (c_pt rfl L) t2 t0 (mV L rfl (swg (g:=11) rfl rfl (c_fa un47 rfl sz45 dC rX L) rfl t1 t1 ?_)))
   refine swg (g:=11) rfl rfl (c_lp ag45 sz45 rF (by exact al2) rfl L) rfl t1 t1 ?_
   refine swg (g:=11) rfl rfl (c_c hG hX cl78 rfl hN (rsignZ b oM) L) rfl t1 t0 (swg (g:=11) rfl rfl (c_gt L) rfl t2 t0 (sw (c_pt rfl L) t2 t0 (mV L rfl (swn (g:=17) rfl (decide_eq_false (mt sgt.1 h1)) L rfl (swn (g:=17) rfl (decide_eq_false (mt sgt.1 h1)) L rfl (swn (g:=17) rfl (decide_eq_false (mt sgt.1 h1)) L rfl (swn (g:=17) rfl (decide_eq_false (mt sgt.1 h1)) L rfl (swn (g:=17) rfl (decide_eq_false (mt sgt.1 h1)) L rfl (swn (g:=17) rfl (decide_eq_false (mt sgt.1 h1)) L rfl (swn (g:=17) rfl (decide_eq_false (mt sgt.1 h1)) L rfl (sw (c_pf (decide_eq_false (mt sgt.1 h1)) L) t2 t0 ?_)))))))))))
   refine aV L rfl ?_
   exact seq_nil ⟨⟨ob rfl (decide_eq_false (fun h=>h1 h.1)).symm,trivial⟩,trivial⟩
 refine ex_ret ?_
 refine ⟨.inr rfl,ResVs.cast (.cons (.tmp rfl) .nil) ?_⟩
 rfl
theorem rmake_says (n d:Int)(h0:d≠0)(hn:nw n<9000000000)(hd:nw d<9000000000):Says E 125 [pZ n,pZ d] (.tup [pQ (Rat.divInt n d),vZ 0]):=by
 refine says_of (xs:=[pQ (Rat.divInt n d),vZ 0]) Tryz.func125 rfl Tryz.ntmps125 Tryz.results125 sM fun F hG hX0 hnt hdf P0=>?_
 obtain ⟨L,hX,hN⟩:=pro hnt hX0 hG
 refine exr (swb (c_bx (k:=2) (n:=2) pa2 rfl rfl (P0 _ rfl) L) t1 t0 ⟨rfl,rfl⟩ (swb (c_bx (k:=3) (n:=2) pa2 rfl rfl (P0 _ rfl) L) t1 t0 ⟨rfl,rfl⟩ (swb (c_al (k:=4) (n:=4) zv47 (.cons rfl (.cons rfl (.cons rfl (.cons rfl .nil)))) rfl (P0 _ rfl) L) t0 t0 ⟨rfl,rfl⟩ (aV L rfl (zn [(2,_),(3,_),(4,_)] [(2,_),(3,_),(4,_)] t3 t3 (ex_seq (exr (lp2 ag45 sz45 L rfl rfl (cK hG hX cl77 hN (risZ n oM) L t1 (sw (c_no L) t1 t0 (mV L rfl ?_)))))))))))
 refine swg (g:=9) rfl rfl (c_lp ag45 sz45 rF (by exact al2) rfl L) rfl t1 t1 ?_
 refine swg (g:=9) rfl rfl (c_c hG hX cl77 rfl hN (risZ d oM) L) rfl t1 t0 (swg (g:=9) rfl rfl (c_no L) rfl t1 t0 (sw (c_pf rfl L) t2 t0 (zn [(2,_),(3,_),(4,_),(13,_)] [(2,_),(3,_),(4,_)] t4 t3 ?_)))
 refine ex_if rfl (fun hc=>?_) (fun hc=>?_)
 ·cases hc
 ·refine ex_skip (xq ?_)
  refine ex_seq (exr (lp2 ag45 sz45 L rfl rfl (cK hG hX cl78 hN (rsignZ d oM) L t1 (sw (c_e L) t2 t0 (zn [(2,_),(3,_),(4,_),(17,_)] [(2,_),(3,_),(4,_)] t4 t3 ?_)))))
  refine ex_if rfl (fun hz=>?_) (fun hz=>?_)
  ·have hz:=dt hz
   exact absurd (Int.sign_eq_zero_iff_zero.1 hz) h0
  ·refine ex_skip (xq ?_)
   refine exr (lp2 ag45 sz45 L rfl rfl (lp2 ag45 sz45 L rfl rfl (cK hG hX cl82 hN (roverZ n d h0 hn hd) L t2 (sb (c_sm sz47 rF pa4 rfl pu4) t2 t1 ?_))))
   refine aV L rfl (zn [(4,_),(5,_)] [(4,_)] t2 t1 (ex_ret ?_))
   refine ⟨.inr rfl,ResVs.cast (.cons (.agg rfl rfl rfl ag47 sz47 (.cons (.cons (.cons (.cons .nil))))) (.cons (.tmp rfl) .nil)) ?_⟩
   rfl
theorem nw64 {n:Int}(h : -9223372036854775808≤n)(h1:n<9223372036854775808):nw n≤2:=nw_le oM
theorem rqof_says (n d:Int)(h : -9223372036854775808≤n)(h1:n<9223372036854775808)(h2 : -9223372036854775808≤d)(h3:d<9223372036854775808)(h0:d≠0):Says E 88 [vZ n,vZ d] (.tup [pQ (Rat.divInt n d),vZ 0]):=by
 refine says_of (xs:=[pQ (Rat.divInt n d),vZ 0]) Tryz.func88 rfl Tryz.ntmps88 Tryz.results88 sM fun F hG hX0 hnt hdf P0=>?_
 obtain ⟨L,hX,hN⟩:=pro hnt hX0 hG
 have k1:=nw64 h h1
 have k2:=nw64 h2 h3
 refine exr (swb (c_al (k:=4) (n:=4) zv47 (.cons rfl (.cons rfl (.cons rfl (.cons rfl .nil)))) rfl (P0 _ rfl) L) t0 t0 ⟨rfl,rfl⟩ (aV L rfl (zn [(0,_),(1,_),(4,_)] [(4,_)] t3 t1 (exr (mV L rfl (cK hG hX cl119 hN (rof_says n h h1) L t1 (mV L rfl (cK hG hX cl119 hN (rof_says d h2 h3) L t1 (cK hG hX cl125 hN (rmake_says n d h0 oM oM) L t2 (sw (c_ex rfl L) t1 t0 (sw (c_ex rfl L) t1 t0 ?_)))))))))))
 refine sb (c_sm sz47 rF pa4 rfl pu4) t2 t1 ?_
 refine aV L rfl (zn [(4,_),(5,_)] [(4,_)] t2 t1 (ex_ret ?_))
 refine ⟨.inr rfl,ResVs.cast (.cons (.agg rfl rfl rfl ag47 sz47 (.cons (.cons (.cons (.cons .nil))))) (.cons (.tmp rfl) .nil)) ?_⟩
 rfl
theorem rwhole_says (n:Int)(h : -9223372036854775808≤n)(h1:n<9223372036854775808):Says E 49 [vZ n] (pQ (n:Rat)):=by
 refine says_of (xs:=[pQ (n:Rat)]) Tryz.func49 rfl Tryz.ntmps49 Tryz.results49 sM fun F hG hX0 hnt hdf P0=>?_
 obtain ⟨L,hX,hN⟩:=pro hnt hX0 hG
 refine exr (swb (c_al (k:=2) (n:=4) zv47 (.cons rfl (.cons rfl (.cons rfl (.cons rfl .nil)))) rfl (P0 _ rfl) L) t0 t0 ⟨rfl,rfl⟩ (zn [(0,_),(2,_)] [(2,_)] t2 t1 (exr (mV L rfl (cK hG hX cl88 hN (rqof_says n 1 h h1 dC dC dC) L t2 (mV L rfl (sw (c_ex rfl L) t1 t0 (sw (c_ex rfl L) t1 t0 (swb (c_al (k:=3) (n:=4) zv47 (.cons rfl (.cons rfl (.cons rfl (.cons rfl .nil)))) rfl (P0 _ rfl) L) t0 t0 ⟨rfl,rfl⟩ (sb (c_sm sz47 rF pa4 rfl pu4) t2 t1 ?_))))))))))
 refine aV L rfl (zn [(2,_),(3,_)] [(2,_),(3,_)] t2 t2 (exr (lp4 ag47 sz47 L rfl rfl (sb (c_sm sz47 rF pa4 rfl pu4) t2 t1 ?_))))
 refine zn [(2,_)] [(2,_)] t1 t1 (ex_ret ?_)
 refine ⟨.inr rfl,ResVs.cast (.cons (.agg rfl rfl rfl ag47 sz47 (.cons (.cons (.cons (.cons .nil))))) .nil) ?_⟩
 rw [divInt_one']
theorem rzero_says  : Says E 60 [] (pQ 0):=by
 refine says_of (xs:=[pQ 0]) Tryz.func60 rfl Tryz.ntmps60 Tryz.results60 sM fun F hG hX0 hnt hdf P0=>?_
 obtain ⟨L,hX,hN⟩:=pro hnt hX0 hG
 refine exr (swb (c_al (k:=0) (n:=4) zv47 (.cons rfl (.cons rfl (.cons rfl (.cons rfl .nil)))) rfl (P0 _ rfl) L) t0 t0 ⟨rfl,rfl⟩ (zn [(0,_)] [(0,_)] t1 t1 (exr (cK hG hX cl49 hN (rwhole_says 0 dC dC) L t1 (sb (c_sm sz47 rF pa4 rfl pu4) t2 t1 ?_)))))
 refine zn [(0,_)] [(0,_)] t1 t1 (ex_ret ?_)
 refine ⟨.inr rfl,ResVs.cast (.cons (.agg rfl rfl rfl ag47 sz47 (.cons (.cons (.cons (.cons .nil))))) .nil) ?_⟩
 rfl
end Go.Proofs.YtjagfionflbjbaaGreat.N
namespace Go.Proofs.YtjagfionflbjbaaGreat.NumA
def firstI (p:Nat→Bool):Nat→Nat→Int
  | _,0=>-1
  | a,n+1=>if p a=true then a else firstI p (a+1) n
theorem firstI_hit {p:Nat→Bool}:∀ {n a:Nat},¬ firstI p a n<0→a≤(firstI p a n).toNat∧(firstI p a n).toNat<a+n∧p (firstI p a n).toNat=true∧((firstI p a n).toNat:Int)=firstI p a n
  | 0,a,h=>by simp [firstI] at h
  | n+1,a,h=>by
    simp only [firstI] at h ⊢
    by_cases e:p a=true
    · simp only [e,if_true]; exact ⟨by omega,by omega,by simpa using e,by omega⟩
    · rw [if_neg e] at h ⊢
      obtain ⟨h1,h2,h3,h4⟩:=firstI_hit h
      exact ⟨by omega,by omega,h3,h4⟩
theorem firstI_miss {p:Nat→Bool}:∀ {n a:Nat},firstI p a n<0→∀ i,a≤i→i<a+n→p i=false
  | 0,a,h,i,h1,h2=>by omega
  | n+1,a,h,i,h1,h2=>by
    simp only [firstI] at h
    by_cases e:p a=true
    · rw [if_pos e] at h; omega
    · rw [if_neg e] at h
      by_cases e2:i=a
      · subst e2; simpa using e
      · exact firstI_miss h i (by omega) (by omega)
abbrev Mq:=List (List Rat)
def ent (m:Mq)(i j:Nat):Rat:=(m.getD i []).getD j 0
def swapL (m:Mq)(i k:Nat):Mq:=(m.set i (m.getD k [])).set k (m.getD i [])
def takR (m:Mq)(i k:Nat)(c:Rat):Mq:=m.set i (List.zipWith (fun a b=>a - c*b) (m.getD i []) (m.getD k []))
def nzI (m:Mq)(c i:Nat):Bool:=!decide ((m.getD i []).getD c 0=0)
def othF (m:Mq)(p c i:Nat):Bool:=decide (i≠p) && nzI m c i
def cntF (m:Mq)(p c i:Nat):Nat:=((List.range i).filter (othF m p c)).length
def elimI (m:Mq)(p c:Nat):List Nat:=(List.range m.length).filter (othF m p c)
def elimX (m x:Mq)(p c k:Nat):Mq:=((elimI m p c).take k).foldl (fun M i=>takR M i p ((m.getD i []).getD c 0)) x
def elimM (m x:Mq)(p c:Nat):Mq:=elimX m x p c (elimI m p c).length
structure ESt where
  m:Mq
  b:Mq
  pv:List Nat
  det:Rat
def pivI (m:Mq)(c p:Nat):Int:=firstI (nzI m c) p (m.length - p)
def swapped (m:Mq)(i p:Nat):Mq:=if i=p then m else swapL m i p
def leadQ (m:Mq)(p c:Nat):Rat:=(m.getD p []).getD c 0
def sclR (m:Mq)(p:Nat)(q:Rat):Mq:=m.set p ((m.getD p []).map (· * q))
def stp (m b:Mq)(pv:List Nat)(det:Rat)(i c:Nat):ESt :=
  let p:=pv.length
  let m1:=swapped m i p
  let b1:=swapped b i p
  let m2:=sclR m1 p (1 / leadQ m1 p c)
  let b2:=sclR b1 p (1 / leadQ m1 p c)
  ⟨elimM m2 m2 p c,elimM m2 b2 p c,pv++[c],(if i=p then det else -det)*leadQ m1 p c⟩
def echStep (s:ESt)(c:Nat):ESt :=
  if s.pv.length<s.m.length then
    if pivI s.m c s.pv.length<0 then s
    else stp s.m s.b s.pv s.det (pivI s.m c s.pv.length).toNat c
  else s
def ech (m b:Mq)(c:Nat):ESt:=(List.range c).foldl echStep ⟨m,b,[],1⟩
theorem ech_succ (m b:Mq)(c:Nat):ech m b (c+1)=echStep (ech m b c) c:=by simp [ech,List.range_succ]
def RC (n c:Nat)(m:Mq):Prop:=m.length=n∧∀ r∈m,r.length=c
theorem getD_mem' {m:Mq}{i:Nat}(hi:i<m.length):m.getD i []∈m:=by simp [List.getD_eq_getElem?_getD,hi]
theorem RC.get {n c i:Nat}{m:Mq}(h:RC n c m)(hi:i<n):(m.getD i []).length=c:=h.2 _ (getD_mem' (by rw [h.1]; exact hi))
theorem RC.set {n c i:Nat}{m:Mq}{r:List Rat}(h:RC n c m)(hr:r.length=c):RC n c (m.set i r):=by
  refine ⟨by rw [List.length_set,h.1],fun q hq=>?_⟩
  rcases List.mem_or_eq_of_mem_set hq with hq | rfl
  · exact h.2 q hq
  · exact hr
theorem RC.take {n c i p:Nat}{q:Rat}{m:Mq}(h:RC n c m)(hi:i<n)(hp:p<n):RC n c (takR m i p q):=h.set (by rw [List.length_zipWith,h.get hi,h.get hp]; omega)
theorem RC.swap {n c i k:Nat}{m:Mq}(h:RC n c m)(hi:i<n)(hk:k<n):RC n c (swapL m i k):=(h.set (h.get hk)).set (h.get hi)
theorem RC.scl {n c p:Nat}{q:Rat}{m:Mq}(h:RC n c m)(hp:p<n):RC n c (sclR m p q):=h.set (by rw [List.length_map,h.get hp])
theorem RC.swapped {n cc i p:Nat}{m:Mq}(h:RC n cc m)(hi:i<n)(hp:p<n):RC n cc (swapped m i p):=by
  unfold Go.Proofs.YtjagfionflbjbaaGreat.NumA.swapped; split; exact h; exact h.swap hi hp
theorem elimI_lt {m:Mq}{p c i:Nat}:i∈elimI m p c↔i<m.length∧i≠p∧(m.getD i []).getD c 0≠0:=by
  simp only [elimI,List.mem_filter,List.mem_range,othF,nzI,Bool.and_eq_true,decide_eq_true_eq,Bool.not_eq_true',decide_eq_false_iff_not]
theorem elimX_succ {m x:Mq}{p c k:Nat}(h:k<(elimI m p c).length):elimX m x p c (k+1)=takR (elimX m x p c k) ((elimI m p c).getD k 0) p ((m.getD ((elimI m p c).getD k 0) []).getD c 0):=by
  rw [elimX,List.take_add_one,show (elimI m p c)[k]?.toList=[(elimI m p c).getD k 0] by simp [List.getD_eq_getElem?_getD,h],List.foldl_append]; rfl
theorem getN_mem {l:List Nat}{k:Nat}(h:k<l.length):l.getD k 0∈l:=by simp [List.getD_eq_getElem?_getD,h]
theorem elimX_rc {n cc:Nat}{m x:Mq}{p c:Nat}(hm:m.length=n)(h:RC n cc x)(hp:p<n):∀ k,k≤(elimI m p c).length→RC n cc (elimX m x p c k)
  | 0,_=>by simpa [elimX] using h
  | k+1,hk=>by
    rw [elimX_succ (by omega)]
    exact (elimX_rc hm h hp k (by omega)).take (by have:=(elimI_lt.1 (getN_mem (show k<(elimI m p c).length by omega))).1; rw [← hm]; exact this) hp
theorem takR_get {m:Mq}{i p j:Nat}{q:Rat}(hi:i<m.length):(takR m i p q).getD j []=if j=i then List.zipWith (fun a b=>a - q*b) (m.getD i []) (m.getD p []) else m.getD j []:=by
  rw [takR,List.getD_eq_getElem?_getD,List.getElem?_set]
  by_cases e:i=j
  · subst e; simp [hi]
  · rw [if_neg e,if_neg (Ne.symm e),List.getD_eq_getElem?_getD]
theorem elimI_take_nd {m:Mq}{p c:Nat}:(elimI m p c).Nodup:=List.Nodup.sublist List.filter_sublist List.nodup_range
theorem elimX_row {m x:Mq}{p c j n cc:Nat}(hm:m.length=n)(h:RC n cc x)(hp:p<n):∀ k,k≤(elimI m p c).length→(elimX m x p c k).getD j []=if j∈(elimI m p c).take k then List.zipWith (fun a b=>a - ((m.getD j []).getD c 0)*b) (x.getD j []) (x.getD p []) else x.getD j []
  | 0,_=>by simp [elimX]
  | k+1,hk=>by
    have hk':k<(elimI m p c).length:=by omega
    have ih:=fun j'=>elimX_row (c:=c) (j:=j') hm h hp k (by omega)
    have hpn:p ∉ (elimI m p c).take k:=fun hh=>(elimI_lt.1 (List.mem_of_mem_take hh)).2.1 rfl
    have hnd:=elimI_take_nd (m:=m) (p:=p) (c:=c)
    have hnk:(elimI m p c).getD k 0 ∉ (elimI m p c).take k:=fun hh=>by
      obtain ⟨i,hi,he⟩:=List.getElem_of_mem hh
      simp only [List.length_take] at hi
      rw [List.getElem_take,List.getD_eq_getElem?_getD,List.getElem?_eq_getElem hk',Option.getD_some] at he
      have:=(List.getElem_inj hnd).1 he
      omega
    rw [elimX_succ hk',takR_get (by rw [(elimX_rc hm h hp k (by omega)).1,← hm]; exact (elimI_lt.1 (getN_mem hk')).1),List.take_add_one,show (elimI m p c)[k]?.toList=[(elimI m p c).getD k 0] by simp [List.getD_eq_getElem?_getD,hk']]
    by_cases e:j=(elimI m p c).getD k 0
    · rw [if_pos e,ih,if_neg hnk,ih p,if_neg hpn,if_pos (by rw [e]; simp),e]
    · rw [if_neg e,ih]
      simp only [List.mem_append,List.mem_singleton,e,or_false]
theorem ent_oob {m:Mq}{i j:Nat}(h:m.length≤i):ent m i j=0:=by
  have g:m.getD i []=(m[i]?).getD []:=List.getD_eq_getElem?_getD ..
  rw [ent,g,List.getElem?_eq_none h]; rfl
theorem zip_get {u v:List Rat}{q:Rat}{j:Nat}(h:v.length=u.length):(List.zipWith (fun a b=>a - q*b) u v).getD j 0=u.getD j 0 - q*v.getD j 0:=by
  simp only [List.getD_eq_getElem?_getD,List.getElem?_zipWith]
  by_cases e:j<u.length
  · have e2:j<v.length:=by omega
    simp [e,e2]
  · have e2:¬ j<v.length:=by omega
    simp [e,e2]; grind
theorem elim_ent {m x:Mq}{p c n cc:Nat}(hm:m.length=n)(h:RC n cc x)(hp:p<n){k j:Nat}(hk:k<n):ent (elimM m x p c) k j=if k=p then ent x p j else ent x k j - ent m k c*ent x p j:=by
  rw [ent,elimM,elimX_row hm h hp _ (Nat.le_refl _),List.take_length]
  by_cases e:k=p
  · rw [if_neg (fun hh=>(elimI_lt.1 hh).2.1 e),if_pos e,e]; rfl
  · rw [if_neg e]
    by_cases e2:(m.getD k []).getD c 0=0
    · rw [if_neg (fun hh=>(elimI_lt.1 hh).2.2 e2)]; simp only [ent,e2]; grind
    · rw [if_pos (elimI_lt.2 ⟨by omega,e,e2⟩),zip_get (by rw [h.get hk,h.get hp])]; rfl
theorem elim_rc {n cc:Nat}{m x:Mq}{p c:Nat}(hm:m.length=n)(h:RC n cc x)(hp:p<n):RC n cc (elimM m x p c):=elimX_rc hm h hp _ (Nat.le_refl _)
theorem scl_ent {m:Mq}{p k j n cc:Nat}{q:Rat}(h:RC n cc m)(hp:p<n):ent (sclR m p q) k j=if k=p then ent m p j*q else ent m k j:=by
  have g:(sclR m p q).getD k []=((m.set p ((m.getD p []).map (· * q)))[k]?).getD []:=by rw [sclR,List.getD_eq_getElem?_getD]
  rw [ent,g,List.getElem?_set]
  by_cases e:p=k
  · subst e
    rw [if_pos rfl,if_pos (by rw [h.1]; exact hp),if_pos rfl,Option.getD_some,ent]
    simp only [List.getD_eq_getElem?_getD,List.getElem?_map]
    cases ((m[p]?.getD [])[j]?) <;> simp [Rat.zero_mul]
  · rw [if_neg e,if_neg (Ne.symm e),← List.getD_eq_getElem?_getD]; rfl
theorem swapped_ent {m:Mq}{i p k j n:Nat}(hm:m.length=n)(hi:i<n)(hp:p<n):ent (swapped m i p) k j=ent m (if k=p then i else if k=i then p else k) j:=by
  unfold swapped
  by_cases e:i=p
  · subst e
    rw [if_pos rfl]
    by_cases e2:k=i
    · rw [if_pos e2,e2]
    · rw [if_neg e2,if_neg e2]
  · have g:(swapL m i p).getD k []=(((m.set i (m.getD p [])).set p (m.getD i []))[k]?).getD []:=by rw [swapL,List.getD_eq_getElem?_getD]
    rw [if_neg e,ent,g,List.getElem?_set,List.length_set]
    by_cases ue1:p=k
    · subst ue1; rw [if_pos rfl,if_pos (by omega),if_pos rfl]; rfl
    · rw [if_neg ue1,if_neg (Ne.symm ue1),List.getElem?_set]
      by_cases e2:i=k
      · subst e2; rw [if_pos rfl,if_pos (by omega),if_pos rfl]; rfl
      · rw [if_neg e2,if_neg (Ne.symm e2),← List.getD_eq_getElem?_getD]; rfl
theorem pivI_hit {m:Mq}{c p:Nat}(h:¬ pivI m c p<0)(hp:p<m.length):p≤(pivI m c p).toNat∧(pivI m c p).toNat<m.length∧nzI m c (pivI m c p).toNat=true∧((pivI m c p).toNat:Int)=pivI m c p:=by
  obtain ⟨h1,h2,h3,h4⟩:=firstI_hit h
  exact ⟨h1,by unfold pivI; omega,h3,h4⟩
theorem stp_rc {n cc d i c:Nat}{m b:Mq}{pv:List Nat}{det:Rat}(h:RC n cc m)(hb:RC n d b)(hp:pv.length<n)(hi:i<n):RC n cc (stp m b pv det i c).m∧RC n d (stp m b pv det i c).b:=by
  have h2:=(h.swapped hi hp).scl (q:=1 / leadQ (swapped m i pv.length) pv.length c) hp
  have h3:=(hb.swapped hi hp).scl (q:=1 / leadQ (swapped m i pv.length) pv.length c) hp
  exact ⟨elim_rc h2.1 h2 hp,elim_rc h2.1 h3 hp⟩
theorem stp_m {n cc i c : Nat} {m b : Mq} {pv : List Nat} {det : Rat} (h : RC n cc m) (hp : pv.length < n) (hi : i < n) {k j : Nat} (hk : k < n) :
    ent (stp m b pv det i c).m k j=if k=pv.length then ent m i j*(1 / ent m i c) else ent m (if k=i then pv.length else k) j - ent m (if k=i then pv.length else k) c*(ent m i j*(1 / ent m i c)):=by
  have hl:leadQ (swapped m i pv.length) pv.length c=ent m i c:=by
    have:=swapped_ent (k:=pv.length) (j:=c) h.1 hi hp
    rw [if_pos rfl] at this; exact this
  have h1:=h.swapped hi hp
  have h2:=h1.scl (q:=1 / leadQ (swapped m i pv.length) pv.length c) hp
  simp only [stp]
  rw [elim_ent h2.1 h2 hp hk,scl_ent h1 hp,scl_ent h1 hp,if_pos rfl,swapped_ent h.1 hi hp,if_pos rfl,hl,scl_ent h1 hp]
  by_cases e:k=pv.length
  · rw [if_pos e,if_pos e]
  · rw [if_neg e,if_neg e,if_neg e,if_neg e,swapped_ent h.1 hi hp,swapped_ent h.1 hi hp,if_neg e]
theorem stp_b {n cc d i c : Nat} {m b : Mq} {pv : List Nat} {det : Rat} (h : RC n cc m) (hb : RC n d b) (hp : pv.length < n) (hi : i < n) {k j : Nat} (hk : k < n) :
    ent (stp m b pv det i c).b k j=if k=pv.length then ent b i j*(1 / ent m i c) else ent b (if k=i then pv.length else k) j - ent m (if k=i then pv.length else k) c*(ent b i j*(1 / ent m i c)):=by
  have hl:leadQ (swapped m i pv.length) pv.length c=ent m i c:=by
    have:=swapped_ent (k:=pv.length) (j:=c) h.1 hi hp
    rw [if_pos rfl] at this; exact this
  have h1:=h.swapped hi hp
  have h2:=h1.scl (q:=1 / leadQ (swapped m i pv.length) pv.length c) hp
  have g1:=hb.swapped hi hp
  have gg2:=g1.scl (q:=1 / leadQ (swapped m i pv.length) pv.length c) hp
  simp only [stp]
  rw [elim_ent h2.1 gg2 hp hk,scl_ent g1 hp,scl_ent g1 hp,if_pos rfl,swapped_ent hb.1 hi hp,if_pos rfl,hl,scl_ent h1 hp]
  by_cases e:k=pv.length
  · rw [if_pos e,if_pos e]
  · rw [if_neg e,if_neg e,if_neg e,if_neg e,swapped_ent hb.1 hi hp,swapped_ent h.1 hi hp,if_neg e]
def sN:Nat→(Nat→Rat)→Rat
  | 0,_=>0
  | n+1,f=>sN n f+f n
theorem sm_congr {f g:Nat→Rat}:∀ {n},(∀ k,k<n→f k=g k)→sN n f=sN n g
  | 0,_=>rfl
  | n+1,h=>by simp only [sN]; rw [sm_congr fun k hk=>h k (by omega),h n (by omega)]
theorem sm_add {f g:Nat→Rat}:∀ n,sN n (fun k=>f k+g k)=sN n f+sN n g
  | 0=>by simp [sN]; grind
  | n+1=>by simp only [sN]; rw [sm_add n]; grind
theorem sm_mul {c:Rat}{f:Nat→Rat}:∀ n,sN n (fun k=>c*f k)=c*sN n f
  | 0=>by simp [sN]
  | n+1=>by simp only [sN]; rw [sm_mul n]; grind
def rvl (c:Nat)(m:Mq)(x:Nat→Rat)(i:Nat):Rat:=sN c fun j=>ent m i j*x j
end Go.Proofs.YtjagfionflbjbaaGreat.NumA
namespace Go.Proofs.YtjagfionflbjbaaGreat.NumA
theorem rv_lin {c i k p:Nat}{m m':Mq}{a:Rat}{x:Nat→Rat}(h:∀ j,j<c→ent m' i j=ent m k j - a*ent m p j):rvl c m' x i=rvl c m x k - a*rvl c m x p:=by
  have:rvl c m' x i=rvl c m x k+(-a)*rvl c m x p:=by
    rw [rvl,rvl,rvl,← sm_mul,← sm_add]; exact sm_congr fun j hj=>by rw [h j hj]; grind
  rw [this]; grind
theorem rv_scl {c i k:Nat}{m m':Mq}{a:Rat}{x:Nat→Rat}(h:∀ j,j<c→ent m' i j=ent m k j*a):rvl c m' x i=rvl c m x k*a:=by
  have:rvl c m' x i=a*rvl c m x k:=by
    rw [rvl,rvl,← sm_mul]; exact sm_congr fun j hj=>by rw [h j hj]; grind
  rw [this]; grind
def jvl (cc d:Nat)(m b:Mq)(x y:Nat→Rat)(k:Nat):Rat:=rvl cc m x k+rvl d b y k
def JZ (n cc d:Nat)(m b:Mq)(x y:Nat→Rat):Prop:=∀ k,k<n→jvl cc d m b x y k=0
theorem stp_jz {n cc d i c : Nat} {m b : Mq} {pv : List Nat} {det : Rat} {x y : Nat → Rat} (h : RC n cc m) (hb : RC n d b) (hp : pv.length < n) (hi : i < n) (hl : ent m i c ≠ 0) :
    JZ n cc d (stp m b pv det i c).m (stp m b pv det i c).b x y↔JZ n cc d m b x y:=by
  have hP:jvl cc d (stp m b pv det i c).m (stp m b pv det i c).b x y pv.length=jvl cc d m b x y i*(1 / ent m i c):=by
    have a1:rvl cc (stp m b pv det i c).m x pv.length=rvl cc m x i*(1 / ent m i c):=rv_scl fun j _=>by rw [stp_m h hp hi hp,if_pos rfl]
    have a2:rvl d (stp m b pv det i c).b y pv.length=rvl d b y i*(1 / ent m i c):=rv_scl fun j _=>by rw [stp_b h hb hp hi hp,if_pos rfl]
    rw [jvl,jvl,a1,a2]; grind
  have hK:∀ k,k<n→k≠pv.length→jvl cc d (stp m b pv det i c).m (stp m b pv det i c).b x y k=jvl cc d m b x y (if k=i then pv.length else k) - ent m (if k=i then pv.length else k) c*(1 / ent m i c)*jvl cc d m b x y i:=by
    intro k hk hne
    have a1:rvl cc (stp m b pv det i c).m x k=rvl cc m x (if k=i then pv.length else k) - ent m (if k=i then pv.length else k) c*(1 / ent m i c)*rvl cc m x i:=rv_lin fun j _=>by rw [stp_m h hp hi hk,if_neg hne]; grind
    have a2:rvl d (stp m b pv det i c).b y k=rvl d b y (if k=i then pv.length else k) - ent m (if k=i then pv.length else k) c*(1 / ent m i c)*rvl d b y i:=rv_lin fun j _=>by rw [stp_b h hb hp hi hk,if_neg hne]; grind
    rw [jvl,jvl,jvl,a1,a2]; grind
  have h1:ent m i c*(1 / ent m i c)=1:=by rw [Rat.div_def,Rat.one_mul]; exact Rat.mul_inv_cancel _ hl
  constructor
  · intro hz
    have hi0:jvl cc d m b x y i=0:=by
      have:=hz _ hp
      rw [hP] at this
      have h2:jvl cc d m b x y i*(1 / ent m i c)*ent m i c=0:=by rw [this]; grind
      grind
    intro k hk
    by_cases e:k=i
    · rw [e]; exact hi0
    · by_cases e2:k=pv.length
      · have:=hz i hi
        by_cases e3:i=pv.length
        · rw [e2,← e3]; exact hi0
        · rw [hK i hi e3,if_pos rfl,hi0] at this
          rw [e2]; grind
      · have:=hz k hk
        rw [hK k hk e2,if_neg e,hi0] at this
        grind
  · intro hz k hk
    by_cases e:k=pv.length
    · rw [e,hP,hz i hi]; grind
    · rw [hK k hk e,hz i hi,hz _ (by split <;> omega)]; grind
structure Rref (n c:Nat) (pv:List Nat) (m:Mq):Prop where
  le:pv.length≤n
  lt:∀ p∈pv,p<c
  asc:pv.Pairwise (· < ·)
  one:∀ i,i<pv.length→∀ k,k<n→ent m k (pv.getD i 0)=if k=i then 1 else 0
  lo:∀ i,i<pv.length→∀ j,j<pv.getD i 0→ent m i j=0
  zr:∀ i,pv.length≤i→i<n→∀ j,j<c→ent m i j=0
theorem getD_app {l:List Nat}{a i:Nat}:(l++[a]).getD i 0=if i<l.length then l.getD i 0 else if i=l.length then a else 0:=by
  simp only [List.getD_eq_getElem?_getD,List.getElem?_append]
  split
  · rfl
  · split
    · rename_i h; rw [h]; simp
    · rename_i h1 h2
      rw [List.getElem?_eq_none (by simp; omega)]; rfl
theorem stp_pv {m b:Mq}{pv:List Nat}{det:Rat}{i c:Nat}:(stp m b pv det i c).pv=pv++[c]:=rfl
theorem stp_rref {n cc i c:Nat}{m b:Mq}{pv:List Nat}{det:Rat}(h:RC n cc m)(hp:pv.length<n)(hi:i<n)(hpi:pv.length≤i)(hl:ent m i c≠0)(hR:Rref n c pv m):Rref n (c+1) (stp m b pv det i c).pv (stp m b pv det i c).m:=by
  have h1:ent m i c*(1 / ent m i c)=1:=by rw [Rat.div_def,Rat.one_mul]; exact Rat.mul_inv_cancel _ hl
  have hlow:∀ k,k<n→∀ j,j<c→ent (stp m b pv det i c).m k j=if k<pv.length then ent m k j else 0:=by
    intro k hk j hj
    rw [stp_m h hp hi hk,hR.zr i hpi hi j hj]
    by_cases e:k=pv.length
    · rw [if_pos e,if_neg (by omega)]; grind
    · rw [if_neg e]
      by_cases e2:k<pv.length
      · rw [if_pos e2,if_neg (show ¬ k=i by omega)]; grind
      · rw [if_neg e2,hR.zr (if k=i then pv.length else k) (by split <;> omega) (by split <;> omega) j hj]; grind
  have hat:∀ k,k<n→ent (stp m b pv det i c).m k c=if k=pv.length then 1 else 0:=by
    intro k hk
    rw [stp_m h hp hi hk]
    by_cases e:k=pv.length
    · rw [if_pos e,if_pos e,h1]
    · rw [if_neg e,if_neg e,h1]; grind
  rw [stp_pv]
  refine ⟨by simp; omega,fun p hm=>?_,?_,fun a ha k hk=>?_,fun a ha j hj=>?_,fun a ha hn j hj=>?_⟩
  · rcases List.mem_append.1 hm with hm | hm
    · have:=hR.lt p hm; omega
    · simp at hm; omega
  · rw [List.pairwise_append]
    exact ⟨hR.asc,by simp,fun a ha b' hb'=>by simp at hb'; subst hb'; exact hR.lt a ha⟩
  · simp only [List.length_append,List.length_cons,List.length_nil] at ha
    rw [getD_app]
    by_cases e:a<pv.length
    · rw [if_pos e,hlow k hk _ (hR.lt _ (getN_mem e))]
      by_cases e2:k<pv.length
      · rw [if_pos e2,hR.one a e k hk]
      · rw [if_neg e2,if_neg (by omega)]
    · rw [if_neg e,if_pos (by omega),hat k hk]
      have:a=pv.length:=by omega
      rw [this]
  · simp only [List.length_append,List.length_cons,List.length_nil] at ha
    rw [getD_app] at hj
    by_cases e:a<pv.length
    · rw [if_pos e] at hj
      rw [hlow a (by omega) j (by have:=hR.lt _ (getN_mem e); omega),if_pos e,hR.lo a e j hj]
    · rw [if_neg e,if_pos (by omega)] at hj
      rw [hlow a (by omega) j hj,if_neg e]
  · simp only [List.length_append,List.length_cons,List.length_nil] at ha
    by_cases e:j<c
    · rw [hlow a hn j e,if_neg (by omega)]
    · have:j=c:=by omega
      rw [this,hat a hn,if_neg (by omega)]
theorem ech_spec {n cc d:Nat}{m b:Mq}(h:RC n cc m)(hb:RC n d b):∀ c,c≤cc→RC n cc (ech m b c).m∧RC n d (ech m b c).b∧Rref n c (ech m b c).pv (ech m b c).m∧∀ x y,JZ n cc d (ech m b c).m (ech m b c).b x y↔JZ n cc d m b x y
  | 0,_=>⟨h,hb,⟨Nat.zero_le _,by simp [ech],by simp [ech],by simp [ech],by simp [ech],by simp⟩,fun _ _=>Iff.rfl⟩
  | c+1,hc=>by
    obtain ⟨h1,h2,h3,h4⟩:=ech_spec h hb c (by omega)
    rw [ech_succ]
    obtain ⟨s,hsz⟩:∃ s,s=ech m b c:=⟨_,rfl⟩
    rw [← hsz] at h1 h2 h3 h4 ⊢
    unfold echStep
    by_cases e:s.pv.length<s.m.length
    · rw [if_pos e]
      by_cases e2:pivI s.m c s.pv.length<0
      · rw [if_pos e2]
        refine ⟨h1,h2,⟨h3.le,fun p hp=>by have:=h3.lt p hp; omega,h3.asc,h3.one,h3.lo,fun i hi hn j hj=>?_⟩,h4⟩
        by_cases e3:j<c
        · exact h3.zr i hi hn j e3
        · obtain rfl:j=c:=by omega
          have:=firstI_miss e2 i hi (by rw [h1.1]; omega)
          simpa [nzI,ent] using this
      · rw [if_neg e2]
        obtain ⟨p1,p2,p3,p4⟩:=pivI_hit e2 e
        have hl:ent s.m (pivI s.m c s.pv.length).toNat c≠0:=by simpa [nzI,ent] using p3
        rw [h1.1] at e p2
        obtain ⟨g1,gg2⟩:=stp_rc (c:=c) (det:=s.det) h1 h2 e p2
        exact ⟨g1,gg2,stp_rref h1 e p2 p1 hl h3,fun x y=>(stp_jz h1 h2 e p2 hl).trans (h4 x y)⟩
    · rw [if_neg e]
      rw [h1.1] at e
      exact ⟨h1,h2,⟨h3.le,fun p hp=>by have:=h3.lt p hp; omega,h3.asc,h3.one,h3.lo,fun i hi hn j hj=>by omega⟩,h4⟩
end Go.Proofs.YtjagfionflbjbaaGreat.NumA
namespace Go.Proofs.YtjagfionflbjbaaGreat.NumA
end Go.Proofs.YtjagfionflbjbaaGreat.NumA
namespace Go.Proofs.YtjagfionflbjbaaGreat.NumA
def putP (pv:List Nat)(g:Nat→Rat)(x:List Rat)(k:Nat):List Rat:=(List.range k).foldl (fun v i=>v.set (pv.getD i 0) (g i)) x
theorem putP_succ {pv:List Nat}{g:Nat→Rat}{x:List Rat}{k:Nat}:putP pv g x (k+1)=(putP pv g x k).set (pv.getD k 0) (g k):=by simp [putP,List.range_succ]
@[simp] theorem putP_length {pv:List Nat}{g:Nat→Rat}{x:List Rat}:∀ {k:Nat},(putP pv g x k).length=x.length
  | 0=>rfl
  | k+1=>by rw [putP_succ,List.length_set,putP_length]
def zsQ (n:Nat):List Rat:=List.replicate n 0
@[simp] theorem zsQ_length {n:Nat}:(zsQ n).length=n:=by simp [zsQ]
def kerF (c:Nat)(pv:List Nat)(m:Mq)(f:Nat):List Rat:=putP pv (fun i=>-(ent m i f)) ((zsQ c).set f 1) pv.length
def freeC (c:Nat)(pv:List Nat):List Nat:=(List.range c).filter fun f=>!pv.contains f
def kerM (c:Nat)(pv:List Nat)(m:Mq):Mq:=(freeC c pv).map (kerF c pv m)
theorem idx_of {l:List Nat}{t:Nat}(h:t∈l):∃ i,i<l.length∧l.getD i 0=t:=by
  obtain ⟨i,hi,e⟩:=List.getElem_of_mem h
  exact ⟨i,hi,by simp [List.getD_eq_getElem?_getD,hi,e]⟩
def besS (b:List Rat):Mq:=(List.range b.length).map fun i=>((zsQ (b.length+1)).set 0 (b.getD i 0)).set (i+1) 1
theorem besS_get {b:List Rat}{i:Nat}(h:i<b.length):(besS b).getD i []=((zsQ (b.length+1)).set 0 (b.getD i 0)).set (i+1) 1:=by simp [besS,List.getD_eq_getElem?_getD,h]
theorem besS_rc {b:List Rat}{n:Nat}(hn:b.length=n):RC n (n+1) (besS b):=by
  subst hn
  refine ⟨by simp [besS],fun r hr=>?_⟩
  simp only [besS,List.mem_map] at hr
  obtain ⟨i,_,rfl⟩:=hr
  simp
def solX (c:Nat)(pv:List Nat)(g:Nat→Rat):List Rat:=putP pv g (zsQ c) pv.length
end Go.Proofs.YtjagfionflbjbaaGreat.NumA
namespace Go.Proofs.YtjagfionflbjbaaGreat.NumA
def detQ (n:Nat)(m b:Mq):Rat:=if (ech m b n).pv.length<n then 0 else (ech m b n).det
end Go.Proofs.YtjagfionflbjbaaGreat.NumA
namespace Go.Proofs.YtjagfionflbjbaaGreat.NumA
def CDM (B:Nat)(m b:Mq):Prop:=∃ d:Nat,0<d∧d≤2 ^ B∧(∀ i j,∃ z:Int,ent m i j*(d:Rat)=(z:Rat)∧z.natAbs≤2 ^ B)∧∀ i j,∃ z:Int,ent b i j*(d:Rat)=(z:Rat)∧z.natAbs≤2 ^ B
def hsz (B:Nat)(a:Rat):Prop:=a.num.natAbs≤2 ^ B∧a.den≤2 ^ B
theorem hs_of {B d:Nat}{a:Rat}{z:Int}(hd:0<d)(hB:d≤2 ^ B)(h:a*(d:Rat)=(z:Rat))(hz:z.natAbs≤2 ^ B):hsz B a:=by
  have hden:(a.den:Rat)≠0:=by
    have:=a.den_nz
    intro h0
    exact this (by exact_mod_cast h0)
  have ue1:(a.num:Rat)=a*(a.den:Rat):=by
    have:=Rat.num_divInt_den a
    have h2:a=(a.num:Rat) / (a.den:Rat):=by rw [← Rat.intCast_natCast,← Rat.divInt_eq_div,this]
    rw [Rat.div_def] at h2
    have h3:(a.den:Rat)⁻¹*(a.den:Rat)=1:=Rat.inv_mul_cancel _ hden
    grind
  have e2:a.num*(d:Int)=z*(a.den:Int):=by
    have:((a.num*(d:Int):Int):Rat)=((z*(a.den:Int):Int):Rat):=by
      rw [Rat.intCast_mul,Rat.intCast_mul,Rat.intCast_natCast,Rat.intCast_natCast,ue1,← h]; grind
    exact_mod_cast this
  have e3:a.num.natAbs*d=z.natAbs*a.den:=by
    have:=congrArg Int.natAbs e2
    simpa [Int.natAbs_mul] using this
  have hdvd:a.den ∣ d:=by
    have:a.den ∣ a.num.natAbs*d:=⟨z.natAbs,by rw [e3,Nat.mul_comm]⟩
    exact (Nat.Coprime.dvd_of_dvd_mul_left a.reduced.symm this)
  obtain ⟨k,hk⟩:=hdvd
  have hk0:0<k:=by
    rcases Nat.eq_zero_or_pos k with h0 | h0
    · subst h0; omega
    · exact h0
  have e4:a.num.natAbs*k=z.natAbs:=by
    rw [hk] at e3
    have hdn:0<a.den:=a.den_pos
    have:a.den*(a.num.natAbs*k)=a.den*z.natAbs:=by
      rw [← Nat.mul_assoc,Nat.mul_comm a.den,Nat.mul_assoc,e3,Nat.mul_comm]
    exact Nat.eq_of_mul_eq_mul_left hdn this
  refine ⟨Nat.le_trans ?_ hz,Nat.le_trans ?_ hB⟩
  · rw [← e4]; exact Nat.le_mul_of_pos_right _ hk0
  · rw [hk]; exact Nat.le_mul_of_pos_right _ hk0
theorem CDM.m {B:Nat}{m b:Mq}(h:CDM B m b)(i j:Nat):hsz B (ent m i j):=by
  obtain ⟨d,h1,h2,h3,_⟩:=h
  obtain ⟨z,hz,hb⟩:=h3 i j
  exact hs_of h1 h2 hz hb
theorem CDM.b {B:Nat}{m b:Mq}(h:CDM B m b)(i j:Nat):hsz B (ent b i j):=by
  obtain ⟨d,h1,h2,_,h3⟩:=h
  obtain ⟨z,hz,hb⟩:=h3 i j
  exact hs_of h1 h2 hz hb
theorem two_mono {a b:Nat}(h:a≤b):2 ^ a≤2 ^ b:=Nat.pow_le_pow_right (by decide) h
theorem CDM.mono {B C:Nat}{m b:Mq}(h:CDM B m b)(hBC:B≤C):CDM C m b:=by
  obtain ⟨d,h1,h2,h3,h4⟩:=h
  exact ⟨d,h1,Nat.le_trans h2 (two_mono hBC),fun i j=>let ⟨z,a,b⟩:=h3 i j; ⟨z,a,Nat.le_trans b (two_mono hBC)⟩,fun i j=>let ⟨z,a,b⟩:=h4 i j; ⟨z,a,Nat.le_trans b (two_mono hBC)⟩⟩
theorem mul_le2 {a b B:Nat}(ha:a≤2 ^ B)(hb:b≤2 ^ B):a*b≤2 ^ (2*B):=by
  rw [show 2*B=B+B by omega,Nat.pow_add]; exact Nat.mul_le_mul ha hb
theorem sgn_abs (z:Int):∃ s:Int,s.natAbs=1∧((z.natAbs:Int))=s*z:=by
  by_cases h:z<0
  · exact ⟨-1,rfl,by omega⟩
  · exact ⟨1,rfl,by omega⟩
theorem cast_ne {z:Int}{a d:Rat}(h:a*d=(z:Rat))(ha:a≠0)(hd:d≠0):z≠0:=by
  intro h0
  rw [h0] at h
  rcases Rat.mul_eq_zero.1 (h.trans (by rfl)) with h | h
  · exact ha h
  · exact hd h
theorem stp_cd {n cc d i c B : Nat} {m b : Mq} {pv : List Nat} {det : Rat} (h : RC n cc m) (hb : RC n d b) (hp : pv.length < n) (hi : i < n) (hl : ent m i c ≠ 0) (hC : CDM B m b) :
    CDM (2*B+1) (stp m b pv det i c).m (stp m b pv det i c).b:=by
  obtain ⟨DF,hD0,hDB,hm,hbb⟩:=hC
  obtain ⟨zp,hzp,hzpB⟩:=hm i c
  have hDne:(DF:Rat)≠0:=fun h0=>by
    have:DF=0:=by exact_mod_cast h0
    omega
  have hz0:zp≠0:=cast_ne hzp hl hDne
  obtain ⟨s,hs1,hs2⟩:=sgn_abs zp
  have hq:ent m i c*(1 / ent m i c)=1:=by rw [Rat.div_def,Rat.one_mul]; exact Rat.mul_inv_cancel _ hl
  obtain ⟨q,hqq⟩:∃ q,q=1 / ent m i c:=⟨_,rfl⟩
  have hcast:((DF*zp.natAbs:Nat):Rat)=(DF:Rat)*((s:Rat)*(zp:Rat)):=by
    rw [Rat.natCast_mul]
    congr 1
    rw [← Rat.intCast_mul,← hs2]; rfl
  have h2:(2:Nat) ^ (2*B+1)=2 ^ (2*B)+2 ^ (2*B):=by rw [Nat.pow_succ]; omega
  have step : ∀ {y : Mq} {dd : Nat}, RC n dd y → (∀ i j, ∃ z : Int, ent y i j * (DF : Rat) = (z : Rat) ∧ z.natAbs ≤ 2 ^ B) → ∀ {y' : Mq}, RC n dd y' → (∀ k j, k < n → ent y' k j = if k = pv.length then ent y i j * q else ent y (if k = i then pv.length else k) j - ent m (if k = i then pv.length else k) c * (ent y i j * q)) →
      ∀ k j,∃ z:Int,ent y' k j*((DF*zp.natAbs:Nat):Rat)=(z:Rat)∧z.natAbs≤2 ^ (2*B+1):=by
    intro y dd hy hyz y' hy' he k j
    by_cases hk:k<n
    · rw [he k j hk,hcast]
      obtain ⟨zi,ue1,b1⟩:=hyz i j
      rw [← hqq] at hq
      by_cases e:k=pv.length
      · rw [if_pos e]
        refine ⟨s*zi*DF,?_,?_⟩
        · rw [Rat.intCast_mul,Rat.intCast_mul,Rat.intCast_natCast,← ue1,← hzp]; grind
        · rw [Int.natAbs_mul,Int.natAbs_mul,hs1,Nat.one_mul,Int.natAbs_natCast,h2]
          have:=mul_le2 b1 hDB; omega
      · rw [if_neg e]
        obtain ⟨zk,e2,b2⟩:=hyz (if k=i then pv.length else k) j
        obtain ⟨zc,e3,b3⟩:=hm (if k=i then pv.length else k) c
        refine ⟨s*(zk*zp - zc*zi),?_,?_⟩
        · rw [Rat.intCast_mul,Rat.intCast_sub,Rat.intCast_mul,Rat.intCast_mul,← ue1,← e2,← e3,← hzp]; grind
        · rw [Int.natAbs_mul,hs1,Nat.one_mul,h2]
          have h3:=Int.natAbs_sub_le (zk*zp) (zc*zi)
          rw [Int.natAbs_mul,Int.natAbs_mul] at h3
          have:=mul_le2 b2 hzpB
          have:=mul_le2 b3 b1
          omega
    · rw [ent_oob (by rw [hy'.1]; omega)]
      exact ⟨0,by rw [Rat.zero_mul]; rfl,Nat.zero_le _⟩
  obtain ⟨g1,gg2⟩:=stp_rc (c:=c) (det:=det) h hb hp hi
  refine ⟨DF*zp.natAbs,Nat.mul_pos hD0 (by omega),?_,step h hm g1 fun k j hk=>?_,step hb hbb gg2 fun k j hk=>?_⟩
  · rw [h2]; have:=mul_le2 hDB hzpB; omega
  · rw [hqq]; exact stp_m h hp hi hk
  · rw [hqq]; exact stp_b h hb hp hi hk
def bitB (B k:Nat):Nat:=2 ^ k*(B+1) - 1
theorem bitB_succ {B k:Nat}:bitB B (k+1)=2*bitB B k+1:=by
  unfold bitB
  have:0<2 ^ k*(B+1):=Nat.mul_pos (Nat.two_pow_pos k) (by omega)
  rw [Nat.pow_succ,show 2 ^ k*2*(B+1)=2*(2 ^ k*(B+1)) by rw [Nat.mul_comm (2 ^ k),Nat.mul_assoc]]; omega
theorem bitB_mono {B k l:Nat}(h:k≤l):bitB B k≤bitB B l:=by
  unfold bitB
  have:2 ^ k*(B+1)≤2 ^ l*(B+1):=Nat.mul_le_mul_right _ (two_mono h)
  omega
theorem ech_cd {n cc d B:Nat}{m b:Mq}(h:RC n cc m)(hb:RC n d b)(hC:CDM B m b):∀ c,c≤cc→CDM (bitB B (ech m b c).pv.length) (ech m b c).m (ech m b c).b
  | 0,_=>by simpa [ech,bitB] using hC
  | c+1,hc=>by
    obtain ⟨h1,h2,_,_⟩:=ech_spec h hb c (by omega)
    have ih:=ech_cd h hb hC c (by omega)
    rw [ech_succ]
    obtain ⟨s,hsz⟩:∃ s,s=ech m b c:=⟨_,rfl⟩
    rw [← hsz] at h1 h2 ih ⊢
    unfold echStep
    by_cases e:s.pv.length<s.m.length
    · rw [if_pos e]
      by_cases e2:pivI s.m c s.pv.length<0
      · rw [if_pos e2]; exact ih
      · rw [if_neg e2]
        obtain ⟨p1,p2,p3,p4⟩:=pivI_hit e2 e
        have hl:ent s.m (pivI s.m c s.pv.length).toNat c≠0:=by simpa [nzI,ent] using p3
        rw [h1.1] at e p2
        rw [stp_pv,List.length_append,List.length_cons,List.length_nil,Nat.zero_add,bitB_succ]
        exact stp_cd h1 h2 e p2 hl ih
    · rw [if_neg e]; exact ih
theorem ech_cd' {n cc d B N c:Nat}{m b:Mq}(h:RC n cc m)(hb:RC n d b)(hC:CDM B m b)(hc:c≤cc)(hN:n≤N):CDM (bitB B N) (ech m b c).m (ech m b c).b :=
  (ech_cd h hb hC c hc).mono (bitB_mono (Nat.le_trans (ech_spec h hb c hc).2.2.1.le hN))
theorem ech_dets {n cc d:Nat}{m b:Mq}(h:RC n cc m)(hb:RC n d b){c:Nat}(hc:c<cc):(ech m b (c+1)).det=(ech m b c).det∨(ech m b c).pv.length<n∧(ech m b (c+1)).pv.length=(ech m b c).pv.length+1∧∃ i,i<n∧((ech m b (c+1)).det=(ech m b c).det*ent (ech m b c).m i c∨(ech m b (c+1)).det = -(ech m b c).det*ent (ech m b c).m i c):=by
  obtain ⟨h1,h2,_,_⟩:=ech_spec h hb c (by omega)
  rw [ech_succ]
  obtain ⟨s,hsz⟩:∃ s,s=ech m b c:=⟨_,rfl⟩
  rw [← hsz] at h1 h2 ⊢
  unfold echStep
  by_cases e:s.pv.length<s.m.length
  · rw [if_pos e]
    by_cases e2:pivI s.m c s.pv.length<0
    · rw [if_pos e2]; exact .inl rfl
    · rw [if_neg e2]
      obtain ⟨p1,p2,p3,p4⟩:=pivI_hit e2 e
      rw [h1.1] at e p2
      have hld:leadQ (swapped s.m (pivI s.m c s.pv.length).toNat s.pv.length) s.pv.length c=ent s.m (pivI s.m c s.pv.length).toNat c:=by
        have:=swapped_ent (k:=s.pv.length) (j:=c) h1.1 p2 e
        rw [if_pos rfl] at this; exact this
      refine .inr ⟨e,by rw [stp_pv]; simp,_,p2,?_⟩
      simp only [stp]
      rw [hld]
      split
      · exact .inl rfl
      · exact .inr rfl
  · rw [if_neg e]; exact .inl rfl
theorem cdl {b:Nat}:∀ {l:List Rat},(∀ a∈l,hsz b a)→∃ d:Nat,0<d∧d≤2 ^ (b*l.length)∧∀ a∈l,∃ z:Int,a*(d:Rat)=(z:Rat)∧z.natAbs≤2 ^ (b*l.length)
  | [],_=>⟨1,by decide,by simp,by simp⟩
  | a :: l,h=>by
    obtain ⟨d,h1,h2,h3⟩:=cdl (l:=l) fun x hx=>h x (by simp [hx])
    obtain ⟨g1,gg2⟩:=h a (by simp)
    have e:2 ^ (b*(a :: l).length)=2 ^ (b*l.length)*2 ^ b:=by rw [List.length_cons,Nat.mul_add,Nat.mul_one,Nat.pow_add]
    refine ⟨d*a.den,Nat.mul_pos h1 a.den_pos,by rw [e]; exact Nat.mul_le_mul h2 gg2,fun x hx=>?_⟩
    rcases List.mem_cons.1 hx with rfl | hx
    · refine ⟨x.num*d,?_,by rw [Int.natAbs_mul,Int.natAbs_natCast,e,Nat.mul_comm]; exact Nat.mul_le_mul h2 g1⟩
      have hden:(x.den:Rat)≠0:=fun h0=>x.den_nz (by exact_mod_cast h0)
      have ue1:(x.num:Rat)=x*(x.den:Rat):=by
        have:=Rat.num_divInt_den x
        have h2:x=(x.num:Rat) / (x.den:Rat):=by rw [← Rat.intCast_natCast,← Rat.divInt_eq_div,this]
        rw [Rat.div_def] at h2
        have h3:(x.den:Rat)⁻¹*(x.den:Rat)=1:=Rat.inv_mul_cancel _ hden
        grind
      rw [Rat.natCast_mul,Rat.intCast_mul,Rat.intCast_natCast,ue1]; grind
    · obtain ⟨z,z1,z2⟩:=h3 x hx
      refine ⟨z*a.den,by rw [Rat.natCast_mul,Rat.intCast_mul,Rat.intCast_natCast,← z1]; grind,by rw [Int.natAbs_mul,Int.natAbs_natCast,e]; exact Nat.mul_le_mul z2 gg2⟩
theorem ent_mem {m:Mq}{i j:Nat}:ent m i j=0∨∃ r∈m,ent m i j∈r:=by
  by_cases hi:i<m.length
  · by_cases hj:j<(m.getD i []).length
    · refine .inr ⟨_,getD_mem' hi,?_⟩
      have:ent m i j=(m.getD i [])[j]:=by
        have e:∀ (r:List Rat) (h:j<r.length),r.getD j 0=r[j]:=fun r h=>by simp [List.getD_eq_getElem?_getD,h]
        exact e _ hj
      rw [this]; exact List.getElem_mem _
    · have e:∀ (r:List Rat),¬ j<r.length→r.getD j 0=0:=fun r h=>by simp [List.getD_eq_getElem?_getD,show r.length≤j by omega]
      exact .inl (e _ hj)
  · exact .inl (ent_oob (by omega))
theorem flat_len {n c:Nat}:∀ {m:Mq},RC n c m→m.flatten.length=n*c:=by
  intro m
  induction m generalizing n with
  | nil=>rintro ⟨rfl,_⟩; simp
  | cons r m ih =>
    rintro ⟨rfl,h⟩
    rw [List.flatten_cons,List.length_append,ih (n:=m.length) ⟨rfl,fun x hx=>h x (by simp [hx])⟩,h r (by simp),List.length_cons,Nat.add_mul,Nat.one_mul,Nat.add_comm]
theorem cdm_of {B:Nat}{m b:Mq}{l:List Rat}(h:∃ d:Nat,0<d∧d≤2 ^ B∧∀ a∈l,∃ z:Int,a*(d:Rat)=(z:Rat)∧z.natAbs≤2 ^ B)(hm:∀ i j,ent m i j=0∨ent m i j=1∨ent m i j∈l)(hb:∀ i j,ent b i j=0∨ent b i j=1∨ent b i j∈l):CDM B m b:=by
  obtain ⟨d,h1,h2,h3⟩:=h
  have key:∀ a:Rat,(a=0∨a=1∨a∈l)→∃ z:Int,a*(d:Rat)=(z:Rat)∧z.natAbs≤2 ^ B:=by
    rintro a (rfl | rfl | h)
    · exact ⟨0,by rw [Rat.zero_mul]; rfl,Nat.zero_le _⟩
    · exact ⟨d,by rw [Rat.one_mul,Rat.intCast_natCast],by simpa using h2⟩
    · exact h3 a h
  exact ⟨d,h1,h2,fun i j=>key _ (hm i j),fun i j=>key _ (hb i j)⟩
end Go.Proofs.YtjagfionflbjbaaGreat.NumA
namespace Go.Proofs.YtjagfionflbjbaaGreat.SH
open Go Go.RowKit
def StepN (P:Program)(F:Fr)(ops:Array Oper)(o:Oper)(S S':St):Prop :=
  ∀ a w,Sat F S a w→∀ (Q:Exit→Act→World→Prop) (K:Act→World→Prop),(∀ a' w',Sat F S' a' w'→K a' w') →
    if Region.wanted o (yielded ops a.tmps) then o.wp P a w K Q∨(∀ n,o.wpIn (fen F) n P a w K Q) else K (a.put o.dst undef) w
inductive SeqS (P:Program) (F:Fr) (ops:Array Oper):List Oper→St→(St→Prop)→Prop
  | nil {S:St} {K:St→Prop}:K S→SeqS P F ops [] S K
  | cons {o:Oper} {os:List Oper} {S S1:St} {K:St→Prop}:StepN P F ops o S S1→SeqS P F ops os S1 K→SeqS P F ops (o :: os) S K
theorem seqS_ops {P : Program} {F : Fr} {ops : Array Oper} {Q : Exit → Act → World → Prop} (hnd : ∀ o ∈ ops.toList, ∀ c, o.op ≠ .defer c) (m : Nat) {K : St → Prop} (hQ : ∀ S' a w, K S' → Sat F S' a w → Q .normal a w) : ∀ {os : List Oper} {S : St} {n : Nat}, SeqS P F ops os S K →
    (∀ j,os[j]? = ops[n+j]?)→∀ a w,Sat F S a w→wpOpsIn (fen F) m P ops Q ((List.range os.length).map (n + ·)) a w:=by
  intro os S n h
  induction h generalizing n with
  | nil hK=>intro _ a w hS; exact hQ _ a w hK hS
  | @cons o os S S1 K hop _ ih =>
    intro hj a w hS
    have h0:ops[n]? = some o:=by have:=hj 0; simpa using this.symm
    rw [List.length_cons,List.range_succ_eq_map,List.map_cons,List.map_map,Nat.add_zero,wpOpsIn_cons]
    refine opIn_of h0 (hnd o (List.mem_of_getElem? (by rw [Array.getElem?_toList]; exact h0))) (hop a w hS Q _ fun a' w' h'=>?_)
    have:=ih hQ (n:=n+1) (fun j=>by have:=hj (j+1); simp only [List.getElem?_cons_succ] at this; rw [this]; congr 1; omega) a' w' h'
    have e:(fun x=>n+1+x)=((fun x=>n+x) ∘ Nat.succ):=by funext x; simp; omega
    rwa [e] at this
section
variable {P:Program} {F:Fr} {Q:Exit→St→Prop} {S:St}
theorem ex_regionS {id:Nat}{l:List Oper}{K:St→Prop}(h:SeqS P F l.toArray l S K)(hQ:∀ S',K S'→Q .normal S')(hnd:noDef l=true:=by rfl):Exec P F (.region id l.toArray false) S Q:=⟨fun m a w hS=>by
  refine wpIn_region ?_
  have:=seqS_ops (by simpa using noDef_all hnd) m (Q:=fun e a' w'=>(∃ S',Q e S'∧Sat F S' a' w')∨(e = .ret∧F.esc a' w')) (fun S' a w hK hS=>.inl ⟨S',hQ S' hK,hS⟩) h (n:=0) (fun j=>by simp) a w hS
  simpa using this⟩
theorem exrN {id:Nat}{l:List Oper}{y:Code}(h:SeqS P F l.toArray l S fun S1=>∃ sl hb,HasS S1 sl∧HasB S1 hb∧Exec P F y ⟨sl,hb⟩ Q)(hnd:noDef l=true:=by rfl):Exec P F (.seq (.region id l.toArray false) y) S Q :=
  ex_seq (ex_regionS h (fun _ ⟨_,_,h1,h2,hn⟩=>hn.weak (le_of h1 h2)) hnd)
theorem exr0N {id:Nat}{l:List Oper}(h:SeqS P F l.toArray l S fun S1=>Q .normal S1)(hnd:noDef l=true:=by rfl):Exec P F (.region id l.toArray false) S Q:=ex_regionS h (fun _ h=>h) hnd
end
section
variable {P:Program} {F:Fr} {ops:Array Oper} {sl:List (Nat×PV)} {hb:List (Nat×Blk)} {op:Op} {T:TypeId} {pos:String} {aft:Array Edge} {os:List Oper} {dst:Option Nat} {rs:List (Operand×PV)} {rb:List (Nat×Blk)} {fr:Option Nat} {K:St→Prop}
theorem nsw {d:Nat}{v:PV}(hc:CoreOk P F ⟨dst,op,T,pos,aft,none⟩ ⟨rs,rb,none,[(d,v)],[]⟩)(h1:Reads ⟨sl,hb⟩ rs)(h2:ReadsB ⟨sl,hb⟩ rb)(hn:SeqS P F ops os ⟨(d,v) :: sl,hb⟩ K):SeqS P F ops (⟨dst,op,T,pos,aft,none⟩ :: os) ⟨sl,hb⟩ K :=
  .cons (fun a w hS Q K' hK=>opok_plain rfl hc _ a w hS (holds_of h1 h2 trivial) Q K' hK) hn
theorem nsb {k:Nat}{B:Blk}(hc:CoreOk P F ⟨dst,op,T,pos,aft,none⟩ ⟨rs,rb,none,[],[(k,B)]⟩)(h1:Reads ⟨sl,hb⟩ rs)(h2:ReadsB ⟨sl,hb⟩ rb)(hn:SeqS P F ops os ⟨sl,(k,B) :: hb⟩ K):SeqS P F ops (⟨dst,op,T,pos,aft,none⟩ :: os) ⟨sl,hb⟩ K :=
  .cons (fun a w hS Q K' hK=>opok_plain rfl hc _ a w hS (holds_of h1 h2 trivial) Q K' hK) hn
theorem nswb {d k:Nat}{v:PV}{B:Blk}(hc:CoreOk P F ⟨dst,op,T,pos,aft,none⟩ ⟨rs,rb,fr,[(d,v)],[(k,B)]⟩)(h1:Reads ⟨sl,hb⟩ rs)(h2:ReadsB ⟨sl,hb⟩ rb)(h3:FreshOk ⟨sl,hb⟩ fr)(hn:SeqS P F ops os ⟨(d,v) :: sl,(k,B) :: hb⟩ K):SeqS P F ops (⟨dst,op,T,pos,aft,none⟩ :: os) ⟨sl,hb⟩ K :=
  .cons (fun a w hS Q K' hK=>opok_plain rfl hc _ a w hS (holds_of h1 h2 h3) Q K' hK) hn
end
mutual
def PV.only (ks:List Nat):PV→Bool
  | .p _=>true
  | .at_ j _ _=>ks.contains j
  | .im _ _=>true
  | .ref j _ _ _=>ks.contains j
  | .agg xs=>PV.onlyL ks xs
  | .tup xs=>PV.onlyL ks xs
  | .clo _ f c=>PV.onlyL ks f && PV.onlyL ks c
  | .ifc _ x=>x.only ks
  | .dead=>true
def PV.onlyL (ks:List Nat):List PV→Bool
  | []=>true
  | x :: xs=>x.only ks && PV.onlyL ks xs
end
mutual
theorem PV.only_free {ks:List Nat}{k:Nat}(hk:ks.contains k=false):∀ x:PV,x.only ks=true→x.free k=true
  | .p _,_=>rfl
  | .at_ j _ _,h=>by
    simp only [PV.only] at h; simp only [PV.free]
    have:j≠k:=fun e=>by rw [e,hk] at h; cases h
    simpa using this
  | .im _ _,_=>rfl
  | .ref j _ _ _,h=>by
    simp only [PV.only] at h; simp only [PV.free]
    have:j≠k:=fun e=>by rw [e,hk] at h; cases h
    simpa using this
  | .agg xs,h=>by simp only [PV.only] at h; simp only [PV.free]; exact PV.onlyL_free hk xs h
  | .tup xs,h=>by simp only [PV.only] at h; simp only [PV.free]; exact PV.onlyL_free hk xs h
  | .clo _ f c,h=>by
    simp only [PV.only,Bool.and_eq_true] at h; simp only [PV.free,Bool.and_eq_true]
    exact ⟨PV.onlyL_free hk f h.1,PV.onlyL_free hk c h.2⟩
  | .ifc _ x,h=>by simp only [PV.only] at h; simp only [PV.free]; exact PV.only_free hk x h
  | .dead,_=>rfl
theorem PV.onlyL_free {ks:List Nat}{k:Nat}(hk:ks.contains k=false):∀ xs:List PV,PV.onlyL ks xs=true→PV.freeL k xs=true
  | [],_=>rfl
  | x :: xs,h=>by
    simp only [PV.onlyL,Bool.and_eq_true] at h; simp only [PV.freeL,Bool.and_eq_true]
    exact ⟨PV.only_free hk x h.1,PV.onlyL_free hk xs h.2⟩
end
theorem PV.only_mem {ks:List Nat}{k:Nat}{x:PV}(h:x.only ks=true)(hk:x.free k=false):k∈ks:=by
  cases e:ks.contains k with
  | true=>simpa using e
  | false=>rw [PV.only_free e x h] at hk; cases hk
def Cells.only (ks:List Nat):Cells→Bool
  | .pure _=>true
  | .mix vs=>PV.onlyL ks vs
theorem Cells.only_get {ks:List Nat}{c:Cells}{i:Nat}{x:PV}(h:c.only ks=true)(hx:c.get i=some x):x.only ks=true:=by
  cases c with
  | pure xs =>
    simp only [Cells.get,Option.map_eq_some_iff] at hx
    obtain ⟨y,_,rfl⟩:=hx; rfl
  | mix vs =>
    simp only [Cells.only] at h
    have:∀ (l:List PV) (i:Nat),PV.onlyL ks l=true→l[i]? = some x→x.only ks=true:=by
      intro l
      induction l with
      | nil=>intro i _ h; simp at h
      | cons y l ih =>
        intro i hl hi
        simp only [PV.onlyL,Bool.and_eq_true] at hl
        cases i with
        | zero => obtain rfl : y = x := by simpa using hi
                  exact hl.1
        | succ i=>exact ih i hl.2 (by simpa using hi)
    exact this vs i h hx
def Cells.ren (κ:Nat→Nat):Cells→Cells
  | .pure xs=>.pure xs
  | .mix vs=>.mix (vs.map (PV.ren κ))
def Blk.ren (κ:Nat→Nat)(B:Blk):Blk:=⟨B.T,B.sz,B.cs.ren κ⟩
theorem Cells.ren_len (κ:Nat→Nat)(c:Cells):(c.ren κ).len=c.len:=by cases c <;> simp [Cells.ren,Cells.len]
theorem Cells.ren_get (κ:Nat→Nat)(c:Cells)(i:Nat):(c.ren κ).get i=(c.get i).map (PV.ren κ):=by
  cases c with
  | pure xs=>simp only [Cells.ren,Cells.get,Option.map_map]; congr 1
  | mix vs=>simp [Cells.ren,Cells.get]
end Go.Proofs.YtjagfionflbjbaaGreat.SH
