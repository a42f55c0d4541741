/- The openers with the laws Survives, Syncs, Full (layer 26). Conditions: none. -/
import Derived.Test.YtjlbeakdgadpmaaOp
import Derived.Test.YtjlbeakdgadpmaaD19
import Derived.Test.YtjlbeakdgadpmaaD20
