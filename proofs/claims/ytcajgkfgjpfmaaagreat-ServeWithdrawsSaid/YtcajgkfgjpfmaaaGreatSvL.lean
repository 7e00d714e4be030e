/- The laws of chapter 30: plain consequences, and contracts with names. Conditions: good servers. -/
import Derived.Test.YtcajgkfgjpfmaaaGreatSvB
set_option linter.unusedSimpArgs false
set_option linter.unusedVariables false
namespace Go.Proofs.YtcajgkfgjpfmaaaGreat
open Go Go.RowKit Go.Inl
theorem yT (a b c : Int) (m : NeedL) (w0 : World) (I0 : Imm) (hI : Sat I0 w0) (ha : 0 ≤ a ∧ a ≤ 255) (hb : 0 ≤ b ∧ b ≤ 255) (hc : 0 ≤ c ∧ c ≤ 255) (hm : needQ a b c = m) :
 Ctr Tryz.prog 13 [.agg #[.int .u8 a,.int .u8 b,.int .u8 c]] w0 (fun v w'=>v = .agg #[.int .i64 m.s,.int .i64 m.u,.int .i64 m.r,.int .i64 m.e,.int .i64 m.o]∧Ext w0 I0 w' I0):=by
 subst hm; exact needR_c a b c w0 I0 hI ha hb hc
theorem jY (s : SrvL) (A : SrvA) (n f : Int) (w0 : World) (I0 : Imm) (hI : Sat I0 w0) (hs : RSrv I0 A s) (hn : 0 ≤ n ∧ n ≤ 255) (hf : versP s n = f) :
 Ctr Tryz.prog 14 [.agg #[.slice A.a0 s.g.vs.length A.c0,.slice A.a1 s.g.ls.length A.c1,.slice A.a2 s.ps.length A.c2,.slice A.a3 s.gone.length A.c3,.slice A.a4 s.cache.length A.c4],.int .u8 n] w0 (fun u w'=>u = .int .i64 f∧Ext w0 I0 w' I0):=by
 subst hf; exact version_c s A n w0 I0 hI hs hn
theorem vY {J:Imm}{a:Option Addr}{c:Nat}{l:List Int}(h:RFl J 1 intC (.slice a l.length c) l)(hl:0 < l.length):atI J (elA (.slice a l.length c) ((l.length:Int) - 1).toNat 1 0) (intC (lastI l)):=by
 rw[show((l.length:Int) - 1).toNat=l.length - 1 by omega];exact h.at (by unfold lastI; exact yV (by omega))
theorem offO_wf {s:SrvL}(hg:GoodS s)(f:Int)(l:List Int)(c:Int):(offO s f l c).p.wf:=by
 show(patO s l).wf
 unfold patO;split
 · exact⟨⟨by decide,by decide⟩,⟨by decide,by decide⟩,(fun _ h=>by cases h),by decide⟩
 · exact allP_wf (zR hg.pw l)
theorem yy:OffL.none.p.wf:=⟨⟨by decide,by decide⟩,⟨by decide,by decide⟩,(fun _ h=>by cases h),by decide⟩
theorem best_wf {s:SrvL}(hg:GoodS s)(hc:CacheOk s)(f:Int)(m:NeedL):(bestP s f m).o.p.wf:=by
 by_cases hf:f∈s.g.vs
 · by_cases h0 : openP s f m = []
   · rw[kC hf h0]; exact yy
   · obtain ⟨d, _, _, _, h⟩ := jA hg hc hf h0
     rw[h]; exact offO_wf hg f d.l d.c
 · rw[yY hf]; exact yy
theorem cache_wf {s:SrvL}(hg:GoodS s)(hc:CacheOk s):∀d∈s.cache,d.p.wf:=fun d hd=>by
 have:=(hc.each d hd).2.2;have h:=allP_wf (zR hg.pw d.way);rw[this]at h; exact h
end Go.Proofs.YtcajgkfgjpfmaaaGreat
