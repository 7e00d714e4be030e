/- The laws of chapter 30: plain consequences, and contracts with names. Conditions: good servers. -/
import Derived.Test.YtcajgkfgjpfmaaaGreatSvB
set_option linter.unusedSimpArgs false
set_option linter.unusedVariables false
namespace Go.Proofs.YtcajgkfgjpfmaaaGreat
open Go Go.RowKit Go.Inl
theorem yT (a b c : Int) (m : NeedL) (w0 : World) (I0 : Imm) (hI : Sat I0 w0) (ha : 0 ≤ a ∧ a ≤ 255) (hb : 0 ≤ b ∧ b ≤ 255) (hc : 0 ≤ c ∧ c ≤ 255) (hm : needQ a b c = m) :
 Ctr Tryz.prog 13 [.agg #[.int .u8 a,.int .u8 b,.int .u8 c]] w0 (fun v w'=>v = .agg #[.int .i64 m.s,.int .i64 m.u,.int .i64 m.r,.int .i64 m.e,.int .i64 m.o]∧Ext w0 I0 w' I0):=by
 subst hm; exact needR_c a b c w0 I0 hI ha hb hc
theorem offO_wf {s:SrvL}(hg:GoodS s)(f:Int)(l:List Int)(c:Int):(offO s f l c).p.wf:=by
 show(patO s l).wf
 unfold patO;split
 · exact⟨⟨by decide,by decide⟩,⟨by decide,by decide⟩,(fun _ h=>by cases h),by decide⟩
 · exact allP_wf (zR hg.pw l)
theorem yy:OffL.none.p.wf:=⟨⟨by decide,by decide⟩,⟨by decide,by decide⟩,(fun _ h=>by cases h),by decide⟩
theorem best_wf {s:SrvL}(hg:GoodS s)(hc:CacheOk s)(f:Int)(m:NeedL):(bestP s f m).o.p.wf:=by
 by_cases hf:f∈s.g.vs
 · by_cases h0 : openP s f m = []
   · rw[kC hf h0]; exact yy
   · obtain ⟨d, _, _, _, h⟩ := jA hg hc hf h0
     rw[h]; exact offO_wf hg f d.l d.c
 · rw[yY hf]; exact yy
theorem esc_wf {s:SrvL}(hg:GoodS s)(hc:CacheOk s)(f:Int)(m:NeedL):(escP s f m).o.p.wf:=by
 by_cases hf:f∈s.g.vs
 · by_cases hgn : f ∈ s.gone
   · by_cases h0 : openP s f m = []
     · rw[yE hf hgn h0]; exact yy
     · obtain ⟨d, _, _, _, _, _, h⟩ := zB hg hc hf hgn h0
       rw[h]; exact offO_wf hg f d.l d.c
   · rw[xf hf hgn]; exact yy
 · rw[esc_no hf]; exact yy
end Go.Proofs.YtcajgkfgjpfmaaaGreat
