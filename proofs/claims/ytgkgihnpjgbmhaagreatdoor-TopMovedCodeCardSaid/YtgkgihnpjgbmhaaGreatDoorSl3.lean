/- Functions of package slices at frozen slices: Equal, BinarySearch, Chunk; a copy of words. Conditions: as said. -/
import Derived.Test.YtgkgihnpjgbmhaaGreatDoorWords2
import Derived.Test.YtgkgihnpjgbmhaaGreatDoorPlaces
set_option linter.unusedSimpArgs false
set_option linter.unusedVariables false
namespace Go.Proofs.YtgkgihnpjgbmhaaGreatDoor
open Tryz
open Go Go.RowKit Go.Inl
theorem xf {α:Type}{a b:List α}{k:Nat}{x y:α}(hx:a[k]? = some x)(hy:b[k]? = some y)(h:a.take k=b.take k)(e:x=y):a.take (k+1)=b.take (k+1):=by
 rw[qz hx,qz hy,h,e]
theorem dec_ne {α:Type}[DecidableEq α]{a b:List α}{k:Nat}{x y:α}(hx:a[k]? = some x)(hy:b[k]? = some y)(e:x≠y):decide (a=b)=false:=by
 rw[xZ]; intro h; subst h; rw[hx]at hy; exact e (Option.some.inj hy)
theorem vz {α:Type}[DecidableEq α]{a b:List α}(hl:a.length=b.length)(h:a.take a.length=b.take a.length):decide (a=b)=true:=by
 rw[decide_eq_true_iff]; rw[uL,hl,uL]at h; exact h
structure SrtAt (l : List Int) (n : Int) (i : Nat) : Prop where
 at_:l[i]? = some n
 low:∀j x,l[j]? = some x→(x < n↔j < i)
theorem srt_at {l:List Int}(h:l.Pairwise (· < ·)){n:Int}{i:Nat}(hi:l[i]? = some n):SrtAt l n i:=by
 refine⟨hi,fun j x hj=>?_⟩;have h1:=(xX.1 hi).1;have h2:=(xX.1 hj).1;have e1:=(xX.1 hi).2;have e2:=(xX.1 hj).2;have hp:=List.pairwise_iff_getElem.1 h;constructor
 · intro hx
   rcases Nat.lt_trichotomy j i with h | h | h
   · exact h
   · subst h; omega
   · have:=hp i j h1 h2 h; omega
 · intro hji
   have:=hp j i h2 h1 hji; omega
structure BsW where
 lo:Nat
 hi:Nat
set_option maxHeartbeats 1000000 in
theorem eqW_c (ad bd : Option Addr) (cap capb : Nat) (a b : List Int) (w0 : World) (I0 : Imm) (hI : Sat I0 w0) (ha : RFl I0 1 u32C (.sg ad a.length cap) a) (hb : RFl I0 1 u32C (.sg bd b.length capb) b) :
 Ctr prog 120 [.sg ad a.length cap,.sg bd b.length capb] w0 (fun v w'=>v = .bool (decide (a=b))∧Ext w0 I0 w' I0):=by
 have hle:=RSl.le ha;simp only[maxLen]at hle;refine fn (n:=26) func120 rfl rfl rfl ?_;have Z:=St.start hI;refine QwR (qq Z (Qab rfl) (QoN (xJ (QwR (qq Z (qb _) (qq Z (qo rfl ui ha rfl) (qq Z (qb _) (qq Z (qo rfl ui hb rfl) (qq Z (g_neq rfl rfl) (QoN (qh rfl ?_ ?_)))))))))))
 ·
  intro hc10;simp only[uS,xZ,Qc,ua]at hc10;have e:decide (a=b)=false:=by rw[xZ]; intro h; subst h; omega
  refine QwR (qq Z (Qab rfl) (QoN (xO (ul (ret1 results120 (qg (v:=.bool _) rfl) ?_)))));exact⟨by rw[e],Z.nil⟩
 ·
  intro hc10;simp only[uS,xZ,Qc,ua]at hc10;have hlen:a.length=b.length:=by omega
  refine xM (xL (xJ (QwR (qq Z (qb _) (qq Z (qo rfl ui ha rfl) (qq Z (Qmi rfl) (QoN (xU (loop (fun(k:Nat) σ w=>okS σ [(0,.sg ad a.length cap),(1,.sg bd b.length capb),(12,.ig a.length),(13,.ig k)]∧St [] w0 I0 I0 w []∧k≤a.length∧a.take k=b.take k) (fun k=>a.length - k) (0) ?_ ?_)))))))))
  ·
   exact⟨⟨rfl,rfl,rfl,rfl,trivial⟩,Z.sel [],by omega,rfl⟩
  ·
   rintro k σ w_l⟨hs,Z,hk0,heq⟩;rw[← qj hs]; clear hs
   refine QwR (qq Z (g_lss rfl rfl) (QoN (xJ (qh rfl ?_ ?_))))
   ·
    intro hc14
    try simp only[zA,zO,zN,zI,zF,zM,zT,zU]at hc14
    obtain⟨x,hxi⟩:∃x,a[k]? = some x:=⟨_,xI (by omega)⟩
    obtain⟨y,hyi⟩:∃y,b[k]? = some y:=⟨_,xI (by omega)⟩
    have hxA:=ha.at hxi;have hyA:=hb.at hyi;refine xM (xL (xJ (xU (QwR (qq Z (Qmi rfl) (qq Z (Qai rfl) (QoN (xJ (draw (.pg 0 (.pg 1 (.pg 2 (.hg 3 (.pg 4 (.pg 5 (.pg 6 (.hg 7 (.pg 8 .nil))))))))) mixed (by kernel_rfl) Z ?_)))))))));intro w_1 Z;refine sp rfl (qb _) (sp rfl (Qmi rfl) (sp rfl (g_ixI ui uV ha rfl rfl (by omega) (by omega)) (sh rfl (qt QH hxA rfl rfl) (sp rfl (qb _) (sp rfl (Qmi rfl) (sp rfl (g_ixI ui uV hb rfl rfl (by omega) (by omega)) (sh rfl (qt QH hyA rfl rfl) (sp rfl (g_neq rfl rfl) (sn (xL (qh rfl ?_ ?_)))))))))))
    ·
     intro hc24
     try simp only[zA,zO,zN,zI,zF,zM,zT,zU]at hc24
     have e:=dec_ne hxi hyi hc24;refine QwR (qq Z (Qab rfl) (QoN (xO (Qq (ul (ul (Qq (ul (ret1 results120 (qg (v:=.bool _) rfl) ?_)))))))));exact⟨by rw[e],Z.nil⟩
    ·
     intro hc24
     try simp only[zA,zO,zN,zI,zF,zM,zT,zU]at hc24
     have heq2:=xf hxi hyi heq hc24;refine xM (uM (xL (reg (qq Z (g_add rfl rfl (by omega) (by omega)) (qq Z (Qmi rfl) ?_)))));exact⟨k+1,_,rfl,⟨⟨rfl,rfl,rfl,rfl,trivial⟩,Z.sel [],by omega,heq2⟩,by omega⟩
   ·
    intro hc14
    try simp only[zA,zO,zN,zI,zF,zM,zT,zU]at hc14
    have hk:k=a.length:=by omega
    subst hk;have e:=vz hlen heq;refine ur (um (um (Qi (xL (QwR (qq Z (Qab rfl) (QoN (xO (ret1 results120 (qg (v:=.bool _) rfl) ?_)))))))));exact⟨by rw[e],Z.nil⟩
set_option maxHeartbeats 1000000 in
theorem eqB_c (ad bd : Option Addr) (cap capb : Nat) (a b : List Bool) (w0 : World) (I0 : Imm) (hI : Sat I0 w0) (ha : RFl I0 1 boolC (.sg ad a.length cap) a) (hb : RFl I0 1 boolC (.sg bd b.length capb) b) :
 Ctr prog 121 [.sg ad a.length cap,.sg bd b.length capb] w0 (fun v w'=>v = .bool (decide (a=b))∧Ext w0 I0 w' I0):=by
 have hle:=RSl.le ha;simp only[maxLen]at hle;refine fn (n:=26) func121 rfl rfl rfl ?_;have Z:=St.start hI;refine QwR (qq Z (Qab rfl) (QoN (xJ (QwR (qq Z (qb _) (qq Z (qo rfl uR ha rfl) (qq Z (qb _) (qq Z (qo rfl uR hb rfl) (qq Z (g_neq rfl rfl) (QoN (qh rfl ?_ ?_)))))))))))
 ·
  intro hc10;simp only[uS,xZ,Qc,ua]at hc10;have e:decide (a=b)=false:=by rw[xZ]; intro h; subst h; omega
  refine QwR (qq Z (Qab rfl) (QoN (xO (ul (ret1 results121 (qg (v:=.bool _) rfl) ?_)))));exact⟨by rw[e],Z.nil⟩
 ·
  intro hc10;simp only[uS,xZ,Qc,ua]at hc10;have hlen:a.length=b.length:=by omega
  refine xM (xL (xJ (QwR (qq Z (qb _) (qq Z (qo rfl uR ha rfl) (qq Z (Qmi rfl) (QoN (xU (loop (fun(k:Nat) σ w=>okS σ [(0,.sg ad a.length cap),(1,.sg bd b.length capb),(12,.ig a.length),(13,.ig k)]∧St [] w0 I0 I0 w []∧k≤a.length∧a.take k=b.take k) (fun k=>a.length - k) (0) ?_ ?_)))))))))
  ·
   exact⟨⟨rfl,rfl,rfl,rfl,trivial⟩,Z.sel [],by omega,rfl⟩
  ·
   rintro k σ w_l⟨hs,Z,hk0,heq⟩;rw[← qj hs]; clear hs
   refine QwR (qq Z (g_lss rfl rfl) (QoN (xJ (qh rfl ?_ ?_))))
   ·
    intro hc14
    try simp only[zA,zO,zN,zI,zF,zM,zT,zU]at hc14
    obtain⟨x,hxi⟩:∃x,a[k]? = some x:=⟨_,xI (by omega)⟩
    obtain⟨y,hyi⟩:∃y,b[k]? = some y:=⟨_,xI (by omega)⟩
    have hxA:=ha.at hxi;have hyA:=hb.at hyi;refine xM (xL (xJ (xU (QwR (qq Z (Qmi rfl) (qq Z (Qai rfl) (QoN (xJ (draw (.pg 0 (.pg 1 (.pg 2 (.hg 3 (.pg 4 (.pg 5 (.pg 6 (.hg 7 (.pg 8 .nil))))))))) mixed (by kernel_rfl) Z ?_)))))))));intro w_1 Z;refine sp rfl (qb _) (sp rfl (Qmi rfl) (sp rfl (g_ixI uR uy ha rfl rfl (by omega) (by omega)) (sh rfl (qt QA hxA rfl rfl) (sp rfl (qb _) (sp rfl (Qmi rfl) (sp rfl (g_ixI uR uy hb rfl rfl (by omega) (by omega)) (sh rfl (qt QA hyA rfl rfl) (sp rfl (g_neqb JQ rfl rfl) (sn (xL (qh rfl ?_ ?_)))))))))))
    ·
     intro hc24;have e:=dec_ne hxi hyi (by simpa using hc24);refine QwR (qq Z (Qab rfl) (QoN (xO (Qq (ul (ul (Qq (ul (ret1 results121 (qg (v:=.bool _) rfl) ?_)))))))));exact⟨by rw[e],Z.nil⟩
    ·
     intro hc24;have heq2:=xf hxi hyi heq (by simpa using hc24);refine xM (uM (xL (reg (qq Z (g_add rfl rfl (by omega) (by omega)) (qq Z (Qmi rfl) ?_)))));exact⟨k+1,_,rfl,⟨⟨rfl,rfl,rfl,rfl,trivial⟩,Z.sel [],by omega,heq2⟩,by omega⟩
   ·
    intro hc14
    try simp only[zA,zO,zN,zI,zF,zM,zT,zU]at hc14
    have hk:k=a.length:=by omega
    subst hk;have e:=vz hlen heq;refine ur (um (um (Qi (xL (QwR (qq Z (Qab rfl) (QoN (xO (ret1 results121 (qg (v:=.bool _) rfl) ?_)))))))));exact⟨by rw[e],Z.nil⟩
set_option maxHeartbeats 1000000 in
theorem eqI_c (ad bd : Option Addr) (cap capb : Nat) (a b : List Int) (w0 : World) (I0 : Imm) (hI : Sat I0 w0) (ha : RFl I0 1 intC (.sg ad a.length cap) a) (hb : RFl I0 1 intC (.sg bd b.length capb) b) :
 Ctr prog 122 [.sg ad a.length cap,.sg bd b.length capb] w0 (fun v w'=>v = .bool (decide (a=b))∧Ext w0 I0 w' I0):=by
 have hle:=RSl.le ha;simp only[maxLen]at hle;refine fn (n:=26) func122 rfl rfl rfl ?_;have Z:=St.start hI;refine QwR (qq Z (Qab rfl) (QoN (xJ (QwR (qq Z (qb _) (qq Z (qo rfl uf ha rfl) (qq Z (qb _) (qq Z (qo rfl uf hb rfl) (qq Z (g_neq rfl rfl) (QoN (qh rfl ?_ ?_)))))))))))
 ·
  intro hc10;simp only[uS,xZ,Qc,ua]at hc10;have e:decide (a=b)=false:=by rw[xZ]; intro h; subst h; omega
  refine QwR (qq Z (Qab rfl) (QoN (xO (ul (ret1 results122 (qg (v:=.bool _) rfl) ?_)))));exact⟨by rw[e],Z.nil⟩
 ·
  intro hc10;simp only[uS,xZ,Qc,ua]at hc10;have hlen:a.length=b.length:=by omega
  refine xM (xL (xJ (QwR (qq Z (qb _) (qq Z (qo rfl uf ha rfl) (qq Z (Qmi rfl) (QoN (xU (loop (fun(k:Nat) σ w=>okS σ [(0,.sg ad a.length cap),(1,.sg bd b.length capb),(12,.ig a.length),(13,.ig k)]∧St [] w0 I0 I0 w []∧k≤a.length∧a.take k=b.take k) (fun k=>a.length - k) (0) ?_ ?_)))))))))
  ·
   exact⟨⟨rfl,rfl,rfl,rfl,trivial⟩,Z.sel [],by omega,rfl⟩
  ·
   rintro k σ w_l⟨hs,Z,hk0,heq⟩;rw[← qj hs]; clear hs
   refine QwR (qq Z (g_lss rfl rfl) (QoN (xJ (qh rfl ?_ ?_))))
   ·
    intro hc14
    try simp only[zA,zO,zN,zI,zF,zM,zT,zU]at hc14
    obtain⟨x,hxi⟩:∃x,a[k]? = some x:=⟨_,xI (by omega)⟩
    obtain⟨y,hyi⟩:∃y,b[k]? = some y:=⟨_,xI (by omega)⟩
    have hxA:=ha.at hxi;have hyA:=hb.at hyi;refine xM (xL (xJ (xU (QwR (qq Z (Qmi rfl) (qq Z (Qai rfl) (QoN (xJ (draw (.pg 0 (.pg 1 (.pg 2 (.hg 3 (.pg 4 (.pg 5 (.pg 6 (.hg 7 (.pg 8 .nil))))))))) mixed (by kernel_rfl) Z ?_)))))))));intro w_1 Z;refine sp rfl (qb _) (sp rfl (Qmi rfl) (sp rfl (g_ixI uf xK ha rfl rfl (by omega) (by omega)) (sh rfl (qt xW hxA rfl rfl) (sp rfl (qb _) (sp rfl (Qmi rfl) (sp rfl (g_ixI uf xK hb rfl rfl (by omega) (by omega)) (sh rfl (qt xW hyA rfl rfl) (sp rfl (g_neq rfl rfl) (sn (xL (qh rfl ?_ ?_)))))))))))
    ·
     intro hc24
     try simp only[zA,zO,zN,zI,zF,zM,zT,zU]at hc24
     have e:=dec_ne hxi hyi hc24;refine QwR (qq Z (Qab rfl) (QoN (xO (Qq (ul (ul (Qq (ul (ret1 results122 (qg (v:=.bool _) rfl) ?_)))))))));exact⟨by rw[e],Z.nil⟩
    ·
     intro hc24
     try simp only[zA,zO,zN,zI,zF,zM,zT,zU]at hc24
     have heq2:=xf hxi hyi heq hc24;refine xM (uM (xL (reg (qq Z (g_add rfl rfl (by omega) (by omega)) (qq Z (Qmi rfl) ?_)))));exact⟨k+1,_,rfl,⟨⟨rfl,rfl,rfl,rfl,trivial⟩,Z.sel [],by omega,heq2⟩,by omega⟩
   ·
    intro hc14
    try simp only[zA,zO,zN,zI,zF,zM,zT,zU]at hc14
    have hk:k=a.length:=by omega
    subst hk;have e:=vz hlen heq;refine ur (um (um (Qi (xL (QwR (qq Z (Qab rfl) (QoN (xO (ret1 results122 (qg (v:=.bool _) rfl) ?_)))))))));exact⟨by rw[e],Z.nil⟩
set_option maxHeartbeats 1000000 in
theorem eqY_c (ad bd : Option Addr) (cap capb : Nat) (a b : List Int) (w0 : World) (I0 : Imm) (hI : Sat I0 w0) (ha : RFl I0 1 byteC (.sg ad a.length cap) a) (hb : RFl I0 1 byteC (.sg bd b.length capb) b) :
 Ctr prog 78 [.sg ad a.length cap,.sg bd b.length capb] w0 (fun v w'=>v = .bool (decide (a=b))∧Ext w0 I0 w' I0):=by
 have hle:=RSl.le ha;simp only[maxLen]at hle;refine fn (n:=26) func78 rfl rfl rfl ?_;have Z:=St.start hI;refine QwR (qq Z (Qab rfl) (QoN (xJ (QwR (qq Z (qb _) (qq Z (qo rfl xQ ha rfl) (qq Z (qb _) (qq Z (qo rfl xQ hb rfl) (qq Z (g_neq rfl rfl) (QoN (qh rfl ?_ ?_)))))))))))
 ·
  intro hc10;simp only[uS,xZ,Qc,ua]at hc10;have e:decide (a=b)=false:=by rw[xZ]; intro h; subst h; omega
  refine QwR (qq Z (Qab rfl) (QoN (xO (ul (ret1 JU (qg (v:=.bool _) rfl) ?_)))));exact⟨by rw[e],Z.nil⟩
 ·
  intro hc10;simp only[uS,xZ,Qc,ua]at hc10;have hlen:a.length=b.length:=by omega
  refine xM (xL (xJ (QwR (qq Z (qb _) (qq Z (qo rfl xQ ha rfl) (qq Z (Qmi rfl) (QoN (xU (loop (fun(k:Nat) σ w=>okS σ [(0,.sg ad a.length cap),(1,.sg bd b.length capb),(12,.ig a.length),(13,.ig k)]∧St [] w0 I0 I0 w []∧k≤a.length∧a.take k=b.take k) (fun k=>a.length - k) (0) ?_ ?_)))))))))
  ·
   exact⟨⟨rfl,rfl,rfl,rfl,trivial⟩,Z.sel [],by omega,rfl⟩
  ·
   rintro k σ w_l⟨hs,Z,hk0,heq⟩;rw[← qj hs]; clear hs
   refine QwR (qq Z (g_lss rfl rfl) (QoN (xJ (qh rfl ?_ ?_))))
   ·
    intro hc14
    try simp only[zA,zO,zN,zI,zF,zM,zT,zU]at hc14
    obtain⟨x,hxi⟩:∃x,a[k]? = some x:=⟨_,xI (by omega)⟩
    obtain⟨y,hyi⟩:∃y,b[k]? = some y:=⟨_,xI (by omega)⟩
    have hxA:=ha.at hxi;have hyA:=hb.at hyi;refine xM (xL (xJ (xU (QwR (qq Z (Qmi rfl) (qq Z (Qai rfl) (QoN (xJ (draw (.pg 0 (.pg 1 (.pg 2 (.hg 3 (.pg 4 (.pg 5 (.pg 6 (.hg 7 (.pg 8 .nil))))))))) mixed (by kernel_rfl) Z ?_)))))))));intro w_1 Z;refine sp rfl (qb _) (sp rfl (Qmi rfl) (sp rfl (g_ixI xQ un ha rfl rfl (by omega) (by omega)) (sh rfl (qt uZ hxA rfl rfl) (sp rfl (qb _) (sp rfl (Qmi rfl) (sp rfl (g_ixI xQ un hb rfl rfl (by omega) (by omega)) (sh rfl (qt uZ hyA rfl rfl) (sp rfl (g_neq rfl rfl) (sn (xL (qh rfl ?_ ?_)))))))))))
    ·
     intro hc24
     try simp only[zA,zO,zN,zI,zF,zM,zT,zU]at hc24
     have e:=dec_ne hxi hyi hc24;refine QwR (qq Z (Qab rfl) (QoN (xO (Qq (ul (ul (Qq (ul (ret1 JU (qg (v:=.bool _) rfl) ?_)))))))));exact⟨by rw[e],Z.nil⟩
    ·
     intro hc24
     try simp only[zA,zO,zN,zI,zF,zM,zT,zU]at hc24
     have heq2:=xf hxi hyi heq hc24;refine xM (uM (xL (reg (qq Z (g_add rfl rfl (by omega) (by omega)) (qq Z (Qmi rfl) ?_)))));exact⟨k+1,_,rfl,⟨⟨rfl,rfl,rfl,rfl,trivial⟩,Z.sel [],by omega,heq2⟩,by omega⟩
   ·
    intro hc14
    try simp only[zA,zO,zN,zI,zF,zM,zT,zU]at hc14
    have hk:k=a.length:=by omega
    subst hk;have e:=vz hlen heq;refine ur (um (um (Qi (xL (QwR (qq Z (Qab rfl) (QoN (xO (ret1 JU (qg (v:=.bool _) rfl) ?_)))))))));exact⟨by rw[e],Z.nil⟩
theorem cnan_c (n:Int)(w0:World)(I0:Imm)(hI:Sat I0 w0):Ctr prog 144 [.ig n] w0 (fun v w'=>v = .bool false∧Ext w0 I0 w' I0):=by
 refine fn (n:=6) func144 rfl rfl rfl ?_;have Z:=St.start hI;refine QwR (qq Z (Qab rfl) (QoR (qq Z (Qmi rfl) (qq Z (Qmi rfl) (qq Z (g_neqF rfl rfl rfl) (qq Z (Qab rfl) (QoN (xO (ret1 results144 (qg (v:=.bool _) rfl) ?_)))))))));exact⟨rfl,Z.nil⟩
theorem cless_c (a b:Int)(w0:World)(I0:Imm)(hI:Sat I0 w0):Ctr prog 115 [.ig a,.ig b] w0 (fun v w'=>v = .bool (decide (a < b))∧Ext w0 I0 w' I0):=by
 refine fn (n:=17) func115 rfl rfl rfl ?_;have Z:=St.start hI;refine QwR (qq Z (Qab rfl) (QoR (qq Z (Qmi rfl) (qe (qi call144 rfl (cnan_c a _ I0 Z.imm)) ?_))));rintro _ w_1⟨rfl,hE⟩;replace Z:=Z.callE hE;refine qq Z (Qmb rfl) (qsf rfl rfl rfl (qsf rfl rfl rfl (qsf rfl rfl rfl (qq Z (g_and (b:=false) rfl rfl (fun h=>(by cases h))) (qq Z (Qmb rfl) (qqs rfl rfl Z (Qmi rfl) (qqs rfl rfl Z (Qmi rfl) (qqs rfl rfl Z (g_lss rfl rfl) (qq Z (g_or rfl rfl (fun _=>rfl)) (qq Z (Qab rfl) (QoN (xO (ret1 results115 (qg (v:=.bool _) rfl) ?_)))))))))))));exact⟨rfl,Z.nil⟩
set_option maxHeartbeats 1000000 in
theorem bsearch_c (ad : Option Addr) (cap i : Nat) (n : Int) (l : List Int) (w0 : World) (I0 : Imm) (hI : Sat I0 w0) (hl : RFl I0 1 intC (.sg ad l.length cap) l) (hs : SrtAt l n i) (hbig : l.length ≤ 4611686018427387903) :
 Ctr prog 72 [.sg ad l.length cap,.ig n] w0 (fun v w'=>v = .tuple #[.ig i,.bool true]∧Ext w0 I0 w' I0):=by
 have hle:=RSl.le hl;simp only[maxLen]at hle;have hil:=(xX.1 hs.at_).1;have hiA:=hl.at hs.at_;have hbd:l.length≤4611686018427387903:=hbig;refine fn (n:=54) func72 rfl rfl rfl ?_;have Z:=St.start hI;refine QwR (qq Z (Qai rfl) (qq Z (Qab rfl) (QoR (qq Z (qb _) (qq Z (qo rfl uf hl rfl) (qq Z (Qai rfl) (QoR (qq Z (Qmi rfl) (qq Z (Qai rfl) (qq Z (Qai rfl) (QoN (xJ (xU (loop (fun(x:BsW) σ w=>okS σ [(0,.sg ad l.length cap),(1,.ig n),(6,.ig l.length),(7,.ig x.lo),(8,.ig x.hi)]∧St [] w0 I0 I0 w []∧x.lo≤i∧i≤x.hi∧x.hi≤l.length) (fun x=>x.hi - x.lo) (⟨0,l.length⟩) ?_ ?_))))))))))))))
 ·
  exact⟨⟨rfl,rfl,rfl,rfl,rfl,trivial⟩,Z.sel [],by dsimp only; omega,by dsimp only; omega,by dsimp only; omega⟩
 ·
  rintro⟨lo,hi⟩σ w_l⟨hs,Z,h1,h2,h3⟩;dsimp only at hs Z h1 h2 h3 ⊢;rw[← qj hs]; clear hs
  refine xJ (QwR (qq Z (Qmi rfl) (qq Z (Qmi rfl) (qq Z (g_lss rfl rfl) (QoN (qh rfl ?_ ?_))))))
  ·
   intro hc15
   try simp only[zA,zO,zN,zI,zF,zM,zT,zU]at hc15
   obtain⟨x,hxi⟩:∃x,l[(lo+hi) / 2]? = some x:=⟨_,xI (by omega)⟩
   have hxA:=hl.at hxi;have hlow:=hs.low _ _ hxi;refine xM (xL (xU (QwR (qq Z (Qmi rfl) (qq Z (Qmi rfl) (qq Z (g_add rfl rfl (by omega) (by omega)) ?_))))));refine qq Z (qH (c:=(lo:Int)+hi) ut underlying152 rfl (by rw[IntKind.wrap_u64]; omega)) ?_;refine qq Z (jM (s:=1) (c:=((lo:Int)+hi) / 2) rfl rfl rfl rfl rfl) ?_;refine qq Z (qH (c:=(((lo+hi) / 2:Nat):Int)) underlying152 ut rfl (by rw[IntKind.wrap_i64]; omega)) ?_;refine qq Z (Qai rfl) (QoR (qq Z (qb _) (qq Z (Qmi rfl) (qq Z (g_ixI uf xK hl rfl rfl (by omega) (by omega)) (qq Z (qt xW hxA rfl rfl) (qq Z (Qmi rfl) (qe (qi call115 rfl (cless_c x n _ I0 Z.imm)) ?_)))))));rintro _ w_1⟨rfl,hE⟩;replace Z:=Z.callE hE;refine QoN (qh rfl ?_ ?_)
   ·
    intro hc27
    try simp only[zA,zO,zN,zI,zF,zM,zT,zU]at hc27
    have hb1:(lo+hi) / 2 < i:=hlow.1 hc27;refine reg (qq Z (Qmi rfl) (qq Z (g_add rfl rfl (by omega) (by omega)) (qq Z (Qai rfl) ?_)))
    first
     | exact⟨⟨(lo+hi) / 2+1,hi⟩,_,rfl,⟨⟨rfl,rfl,rfl,rfl,rfl,trivial⟩,Z.sel [],by dsimp only; omega,by dsimp only; omega,by dsimp only; omega⟩,by dsimp only; omega⟩
     | exact⟨⟨lo,(lo+hi) / 2⟩,_,rfl,⟨⟨rfl,rfl,rfl,rfl,rfl,trivial⟩,Z.sel [],by dsimp only; omega,by dsimp only; omega,by dsimp only; omega⟩,by dsimp only; omega⟩
   ·
    intro hc27
    try simp only[zA,zO,zN,zI,zF,zM,zT,zU]at hc27
    have hb1:¬(lo+hi) / 2 < i:=fun h=>hc27 (hlow.2 h)
    refine reg (qq Z (Qmi rfl) (qq Z (Qai rfl) ?_))
    first
     | exact⟨⟨(lo+hi) / 2+1,hi⟩,_,rfl,⟨⟨rfl,rfl,rfl,rfl,rfl,trivial⟩,Z.sel [],by dsimp only; omega,by dsimp only; omega,by dsimp only; omega⟩,by dsimp only; omega⟩
     | exact⟨⟨lo,(lo+hi) / 2⟩,_,rfl,⟨⟨rfl,rfl,rfl,rfl,rfl,trivial⟩,Z.sel [],by dsimp only; omega,by dsimp only; omega,by dsimp only; omega⟩,by dsimp only; omega⟩
  ·
   intro hc15
   try simp only[zA,zO,zN,zI,zF,zM,zT,zU]at hc15
   have hlo:lo=i:=by omega
   subst hlo;refine ur (um (um (Qi (xL (QwR (qq Z (Qmi rfl) (qq Z (Qmi rfl) (qq Z (Qmi rfl) (qq Z (g_toV (g_lss rfl rfl) (congrArg Value.bool (uH (by omega)))) (qq Z (Qmb rfl) (qqs rfl rfl Z (qb _) (qqs rfl rfl Z (Qmi rfl) (qqs rfl rfl Z (g_ixI uf xK hl rfl rfl (by omega) (by omega)) (qqs rfl rfl Z (qt xW hiA rfl rfl) ?_))))))))))))));refine qqs rfl rfl Z (Qmi rfl) (qqs rfl rfl Z (g_toV (g_eql rfl rfl) (congrArg Value.bool (uH rfl))) (qqs rfl rfl Z (Qmb rfl) (qsf rfl rfl rfl (qsf rfl rfl rfl (qsf rfl rfl rfl (qsf rfl rfl rfl (qsf rfl rfl rfl (qsf rfl rfl rfl (qsu rfl rfl (qsu rfl rfl (qsf rfl rfl rfl (qqs rfl rfl Z (g_or (b:=true) rfl rfl (fun h=>(by cases h))) ?_))))))))))));refine qq Z (g_and (b:=true) rfl rfl (fun _=>rfl)) (qq Z (Qai rfl) (qq Z (Qab rfl) (QoN (xO (ret2 results72 (qg (v:=.ig _) rfl) (qg (v:=.bool _) rfl) ?_)))));exact⟨rfl,Z.nil⟩
def chunkV (v:Value)(n k:Nat):Value:=resl v (8*k) (if 8*k+8≤n then 8*k+8 else n) (if 8*k+8≤n then 8*k+8 else n) 1
def chunkA (v:Value)(n k:Nat):List Value:=[chunkV v n k]
def chunk {α:Type}(l:List α)(k:Nat):List α:=(l.take (if 8*k+8≤l.length then 8*k+8 else l.length)).drop (8*k)
theorem chunk_r {α:Type}{I:Imm}{enc:α→List Value}{v:Value}{l:List α}(h:RFl I 1 enc v l){k:Nat}(hk:8*k < l.length):RFl I 1 enc (chunkV v l.length k) (chunk l k) :=
 RFl.resl h (8*k) _ (by split <;> omega) (by split <;> omega)
theorem vX {α:Type}(l:List α)(k:Nat):(chunk l k).length=(if 8*k+8≤l.length then 8*k+8 else l.length) - 8*k:=by
 unfold chunk; rw[Qj,uo]; split <;> omega
theorem g_minI {P:Program}{n:Nat}{σ:Nat→Value}{S:World→Prop}{ty:TypeId}{x y:Operand}{K:IntKind}{a b c:Int}{aT:Array TypeId}(hx:ev n σ x = .int K a)(hy:ev n σ y = .int K b)(h:(if a≤b then a else b)=c):Gives P (ev n σ) S (.call { callee:=.builtin .min,args := #[x,y],argTypes:=aT }) ty (.int K c):=by
 refine g_toV (g_min hx hy) ?_;rw[← h];congr 1
 first | rfl | (split <;> split <;> omega)
theorem chunk_c (ad : Option Addr) (m cap : Nat) (w0 : World) (I0 : Imm) (hI : Sat I0 w0) :
 Ctr prog 75 [.sg ad m cap,.ig 8] w0 (fun v w'=>∃I' b c,v = .func (.func 117) #[] [.zg b,.zg c].toArray∧Ext w0 I0 w' I'∧atI I' ⟨b,0,none⟩ [.sg ad m cap]∧atI I' ⟨c,0,none⟩ [.ig 8]):=by
 refine fn (n:=9) func75 rfl rfl rfl ?_;have Z:=St.start hI;refine QwR (qe (d_box (cs:=[.sg _ _ _]) Z rfl) ?_);clear Z;rintro _ w_1⟨b2,rfl,Z⟩;refine qe (d_box (cs:=[.ig _]) Z rfl) ?_;clear Z;rintro _ w_2⟨b3,rfl,Z⟩;refine qq Z (qd _) (QoN (xJ (QwR (qq Z (qc 0 xW rfl rfl rfl) (qq Z (g_toV (g_lss rfl rfl) (congrArg Value.bool (uw (by decide)))) (QoN (qV (rfl) (xM (xL (QwR (qq Z (jP ml0 (ml rfl (ml rfl ml0))) (qq Z (qd _) (QoN (xO (ret1 results75 (qg rfl) ?_)))))))))))))));obtain⟨I2,hS2,hI2,hb3⟩:=Z.freeze1;obtain⟨I3,hS3,hI3,hb2⟩:=hS2.freeze1;exact⟨I3,b2,b3,rfl,hS3,hb2,hb3.mono hI3⟩
set_option maxHeartbeats 1000000 in
theorem chunk1_it (l : List Bool) (b c cap : Nat) (ad : Option Addr) (I0 : Imm) (hb : atI I0 ⟨b, 0, none⟩ [.sg ad l.length cap]) (hc : atI I0 ⟨c, 0, none⟩ [.ig 8]) (hl : RFl I0 1 boolC (.sg ad l.length cap) l) (hn : l.length ≤ 1073741824) (hcap : l.length ≤ cap) :
 IterC prog 117 [.zg b,.zg c] (chunkA (.sg ad l.length cap) l.length) ((l.length+7) / 8) I0:=by
 intro lp J Jx w1 I1 hst hyc hsat hsub hJ0;replace hb:=hb.mono hsub;replace hc:=hc.mono hsub;replace hl:=hl.mono hsub;refine fn (n:=31) func117 rfl rfl rfl ?_;have Z:=St.start hsat;refine QwR (qq Z (Qai rfl) (QoN (xU (loop (fun(k:Nat) σ w=>okS σ [(0,.func (.yield lp) #[] #[]),(1,.zg b),(2,.zg c),(4,.ig (8*(k:Int)))]∧∃I,St [] w I I w []∧k≤(l.length+7) / 8∧Inl.Sub I1 I∧J k I w) (fun k=>(l.length+7) / 8 - k) (0) ?_ ?_))))
 ·
  exact⟨⟨rfl,rfl,rfl,rfl,trivial⟩,_,St.start Z.imm,by omega,Inl.Sub.refl _,hJ0⟩
 ·
  rintro k σ w_l⟨hs,I,Z,hk0,hsub1,hJ⟩;rw[← qj hs]; clear hs
  refine xJ (QwR (qq Z (Qmi rfl) (qq Z (jG (c:=0) QN (hb.mono hsub1) rfl rfl) (qq Z (qo rfl uR (hl.mono hsub1) rfl) (qq Z (g_lss rfl rfl) (QoN (qh rfl ?_ ?_)))))))
  ·
   intro hc9
   try simp only[zA,zO,zN,zI,zF,zM,zT,zU]at hc9
   obtain⟨he1,he2⟩:(if 8*k+8≤l.length then 8*k+8 else l.length)≤l.length∧8*k < (if 8*k+8≤l.length then 8*k+8 else l.length):=by split <;> omega
   refine xM (xL (xJ (xU (xJ (draw (.hg 0 (.hg 1 (.pg 2 (.pg 3 (.pg 4 (.pg 5 (.pg 6 .nil))))))) mixed (by kernel_rfl) Z ?_)))));intro w_1 Z;refine sh rfl (jG (c:=0) xW (hc.mono hsub1) rfl rfl) (sh rfl (jG (c:=0) QN (hb.mono hsub1) rfl rfl) (sp rfl (Qmi rfl) (sp rfl (kj (l0:=8*k) uR uy rfl rfl (by omega) (by omega) (by omega)) (sp rfl (yj rfl uR rfl) ?_))));refine sp rfl (g_minI (c:=(((if 8*k+8≤l.length then 8*k+8 else l.length) - 8*k:Nat):Int)) rfl rfl (by split <;> split <;> omega)) ?_;refine sp rfl (Qai rfl) (sn (xL (QwR (qq Z (qb _) (qq Z (jG (c:=0) QN (hb.mono hsub1) rfl rfl) (qq Z (Qmi rfl) (qq Z (Qmi rfl) (qq Z (Qmi rfl) (qq Z (g_add rfl rfl (by omega) (by omega)) (qq Z (Qmi rfl) (qq Z (Qmi rfl) (qq Z (g_add rfl rfl (by omega) (by omega)) ?_))))))))))));refine qq Z (g_toV (g_slice3N (l0:=8*k) (h0:=if 8*k+8≤l.length then 8*k+8 else l.length) (m0:=if 8*k+8≤l.length then 8*k+8 else l.length) uR uy rfl rfl rfl rfl (by omega) (by split <;> omega) (by omega) (by split <;> omega) (by omega) (by split <;> omega) (by split <;> omega)) (rfl:_=chunkV (.sg ad l.length cap) l.length k)) ?_;refine qe (d_yieldC rfl rfl hyc (by omega) Z.imm (hst _ _ _ _ _ hJ Z.nil)) ?_;rintro _ w_2⟨bb,I2,rfl,hsat2,hsub2,hyt,hyf⟩;replace Z:=St.start hsat2;refine qq Z (g_not rfl) (QoN (qh rfl ?_ ?_))
   ·
    intro hc30;simp only[uS,Qc]at hc30;have hfin:=hyf hc30;refine xO (Qq (ul (ul (Qq (ret0 results117  ?_)))));exact⟨_,Z.imm,hsub1.trans hsub2,.inr ⟨k,by omega,hfin⟩⟩
   ·
    intro hc30;simp only[uS,Qc]at hc30;have hJ2:=hyt hc30;have hsub3:=hsub1.trans hsub2;refine xM (uM (xL (reg (qq Z (Qmi rfl) (qq Z (jG (c:=0) xW (hc.mono hsub3) rfl rfl) (qq Z (g_add rfl rfl (by omega) (by omega)) (qq Z (Qai rfl) ?_)))))));exact⟨k+1,_,rfl,⟨⟨rfl,rfl,rfl,congrArg (Value.int .i64) (by omega),trivial⟩,_,Z.sel [],by omega,hsub1.trans hsub2,hJ2⟩,by omega⟩
  ·
   intro hc9
   try simp only[zA,zO,zN,zI,zF,zM,zT,zU]at hc9
   have hk:k=(l.length+7) / 8:=by omega
   subst hk;refine ur (um (um (Qi (end0 results117  ?_))));exact⟨_,Z.imm,hsub1,.inl hJ⟩
theorem cloneW_o (ad : Addr) (cap : Nat) (l : List Int) (w0 : World) (I0 : Imm) (hI : Sat I0 w0) (hl : RFl I0 1 u32C (.sg (some ad) l.length cap) l) (hn : l.length ≤ 1073741824) :
 Ctr prog 79 [.sg (some ad) l.length cap] w0 (fun v w'=>∃a c,v = .sg a l.length c∧St [] w0 I0 I0 w' [.row (.sg a l.length c) 88 1 l.length (flat u32C l)]):=by
 refine fn (n:=8) func79 rfl rfl rfl ?_;have Z:=St.start hI;refine QwR (qq Z (qd _) (QoN (xJ (QwR (qq Z (qb _) (qq Z (g_eqSliceNil ui rfl rfl) (QoN (qV (rfl) (xM (xL (QwR (qe (jo Z ui uV) ?_))))))))))));clear Z;rintro _ w_1⟨Z,b5_,rfl⟩;refine qq Z (qb _) (qe (qO 0 Z rfl ui Jr rfl rfl rfl rfl qW (fun _=>rfl) hl rfl (by omega) (by omega)) ?_);clear Z;rintro _ w_2⟨a7,p7,rfl,Z⟩;refine qq Z (qd _) (QoN (xO (ret1 results79 (qg rfl) ?_)));rw[Ja,Qv]at Z;exact⟨a7,p7,by show Value.slice a7 (0+l.length) p7=_; rw[Qv],Z.sel [true]⟩
end Go.Proofs.YtgkgihnpjgbmhaaGreatDoor
